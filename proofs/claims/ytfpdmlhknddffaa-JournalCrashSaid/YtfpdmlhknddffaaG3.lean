/- Contracts of functions, and plain laws, that the statement's proof uses; printed and joined by programs of this session. -/
import Derived.Test.YtfpdmlhknddffaaG2
import Derived.Test.YtfpdmlhknddffaaRows
import Derived.ProofKit
import Derived.WalkKit
import Derived.OpenShut
import Derived.ChangeOld
import Derived.ChangeSlices
import Derived.Below
import Derived.SizedLaws
import Derived.Carry
import Derived.Deep.SlicePairs
import Derived.Lib.SmallJoins
import Derived.Test.YtfpdmlhknddffaaProg
import Derived.Deep.Draws
import Derived.Deep.AppendLies
import Derived.Maps.AppendAt
import Derived.OwnWalk
import Derived.Laws.BytesArg
import Derived.Laws.MakeOwn
import Derived.Laws.OwnMore
import Derived.Deep.OwnRows
import Derived.Tactics
import Derived.Lib.ConvBytes
import Derived.Laws.Slices
import Derived.KernelRfl
import Derived.RowKit3
import Derived.Deep.LoopGhost
import Derived.Deep.QuietTactic
import Derived.BigQuiet
import Derived.WideLaws
import Derived.Deep.DeepCutAuto
import Derived.Deep.CutBlock
import Derived.Deep.RegionHeld3
import Derived.Laws.Rows
import Derived.Lib.AppendStr
import Derived.ArgAppend
import Derived.Laws.IdiomCopy
import Derived.OrdersHeld
import Derived.Laws.BitsLemmas
import Derived.RowKit
import Derived.RangeFuncNested
import Derived.RangeFuncBound
import Derived.RangeFuncCalls
import Derived.RangeFuncLeaves
import Derived.RangeFuncFrom
import Derived.Shelf.Abstract
import Derived.Shelf.RegionOpen
import Derived.OwnWalkIn
import Derived.TacticsInMore
import Derived.LoopNIn
import Derived.LoopIn
section
namespace Go.Proofs.Ytfpdmlhknddffaa.Dk
open Go.RowKit Go.Proofs.YtfpdmlhknddffaaW.PrintWords Go.Proofs.YtfpdmlhknddffaaW.PrintLast Go.Proofs.YtfpdmlhknddffaaW.PrintMore
set_option linter.unusedVariables false
set_option linter.unusedSimpArgs false
theorem fit_of {w:World} {A1:Option Addr} {l1:List S45} (h1:Kd.C k45 w A1 l1.length l1):Fit l1:=by
 refine ⟨C_max h1,fun x hx => ?_⟩
 obtain ⟨i,hi,rfl⟩:=List.getElem_of_mem hx
 obtain ⟨_,_,_,_,_,_,_,q3⟩:=C_get45 h1 i hi hi
 exact C_max q3
set_option maxHeartbeats 800000 in
theorem refRead_no (A0:Option Addr) (c0:Nat) (l0:List Int) (A1:Option Addr) (c1:Nat) (l1:List S45) (a c:Int) (w:World)
 (h0:Kd.C (Kd.int .u8) w A0 l0.length l0) (hc0:l0.length ≤ c0) (h1:Kd.C k45 w A1 l1.length l1) (hc1:l1.length ≤ c1) (hr:readOk l0 l1 a c=false) :
  Calls Try.prog 24 #[.agg #[.slice A0 l0.length c0,.slice A1 l1.length c1],.int .i64 a,.int .i64 c] w fun e w'=>e=.returned (.tuple #[.slice none 0 0,.int .i64 1])∧Below w.heap.size w w':=by
 have hu25:=Try.underlying25
 obtain ⟨kv,hkv⟩:=(valid_ev l0 l1 (fit_of h1)).rounds
 have Hkv:=Lib.hid hkv
 have hm0:=C_max h0
 clear hkv
 unfold readOk at hr
 cases hv:validB l0 l1
 · have Hv:=Lib.hid hv
   clear hr hv
   go_enter Try.func24,Try.ntmps24
   go_wp2_with (first|((with_reducible refine gate_dst (N:=3) rfl ?_);(refine box_event ?hg (N:=3) ?hd (cs:=#[.slice A0 l0.length c0,.slice A1 l1.length c1]) (t:=25) ?hr ?_);(case hd=>rfl);(case hg=>rfl);(case hr=>first|(go_simp;done)|(go_simp;rfl));intro g hg w1 hb1 hB1;have hq0:=(blk_cell hb1 0).trans rfl;have hq1:=(blk_cell hb1 1).trans rfl;have HB1:=Lib.hid hB1;have Hb1:=Lib.hid hb1;clear hB1 hb1 hg)|(go_at_call 31;refine (wageofficeref42_Valid.calls kv _ _ l0 _ _ l1 _ _ (Kd.C_below h0 HB1.out) hc0 (Kd.C_below h1 HB1.out) hc1 Hkv.out).mono ?_;rintro e w3 ⟨rfl,hb3⟩;rw [Hv.out];have HB3:=Lib.hid (below_then HB1.out HB1.out.size hb3);clear hb3 Hb1 hq0 hq1) )
   go_ret2
   exact ⟨rfl,HB3.out⟩
 · rw [hv,Bool.true_and] at hr
   have hn:¬ (0 ≤ a∧0 ≤ c∧a ≤ l0.length∧c ≤ l0.length - a):=fun h=>by rw [(isPartB_iff _ _ _).2 h] at hr;cases hr
   have Hv:=Lib.hid hv
   have hl:=((validB_iff l0 l1).1 hv).1
   clear hr hv
   by_cases e1:a < 0
   · clear hn
     go_enter Try.func24,Try.ntmps24
     go_wp2_with (first|((with_reducible refine gate_dst (N:=3) rfl ?_);(refine box_event ?hg (N:=3) ?hd (cs:=#[.slice A0 l0.length c0,.slice A1 l1.length c1]) (t:=25) ?hr ?_);(case hd=>rfl);(case hg=>rfl);(case hr=>first|(go_simp;done)|(go_simp;rfl));intro g hg w1 hb1 hB1;have hq0:=(blk_cell hb1 0).trans rfl;have hq1:=(blk_cell hb1 1).trans rfl;have HB1:=Lib.hid hB1;have Hb1:=Lib.hid hb1;clear hB1 hb1 hg)|(go_at_call 31;refine (wageofficeref42_Valid.calls kv _ _ l0 _ _ l1 _ _ (Kd.C_below h0 HB1.out) hc0 (Kd.C_below h1 HB1.out) hc1 Hkv.out).mono ?_;rintro e w3 ⟨rfl,hb3⟩;rw [Hv.out];have HB3:=Lib.hid (below_then HB1.out HB1.out.size hb3);clear hb3 Hb1 hq0 hq1) )
     go_ret2
     exact ⟨rfl,HB3.out⟩
   · by_cases e2:c < 0
     · clear hn
       go_enter Try.func24,Try.ntmps24
       go_wp2_with (first|((with_reducible refine gate_dst (N:=3) rfl ?_);(refine box_event ?hg (N:=3) ?hd (cs:=#[.slice A0 l0.length c0,.slice A1 l1.length c1]) (t:=25) ?hr ?_);(case hd=>rfl);(case hg=>rfl);(case hr=>first|(go_simp;done)|(go_simp;rfl));intro g hg w1 hb1 hB1;have hq0:=(blk_cell hb1 0).trans rfl;have hq1:=(blk_cell hb1 1).trans rfl;have HB1:=Lib.hid hB1;have Hb1:=Lib.hid hb1;clear hB1 hb1 hg)|(go_at_call 31;refine (wageofficeref42_Valid.calls kv _ _ l0 _ _ l1 _ _ (Kd.C_below h0 HB1.out) hc0 (Kd.C_below h1 HB1.out) hc1 Hkv.out).mono ?_;rintro e w3 ⟨rfl,hb3⟩;rw [Hv.out];have HB3:=Lib.hid (below_then HB1.out HB1.out.size hb3);clear hb3 Hb1 hq0 hq1) )
       go_ret2
       exact ⟨rfl,HB3.out⟩
     · by_cases e3:a > (l0.length:Int)
       all_goals
        have e0:0 ≤ a:=by omega
        have e00:0 ≤ c:=by omega
       · clear hn
         go_enter Try.func24,Try.ntmps24
         go_wp2_with (first|((with_reducible refine gate_dst (N:=3) rfl ?_);(refine box_event ?hg (N:=3) ?hd (cs:=#[.slice A0 l0.length c0,.slice A1 l1.length c1]) (t:=25) ?hr ?_);(case hd=>rfl);(case hg=>rfl);(case hr=>first|(go_simp;done)|(go_simp;rfl));intro g hg w1 hb1 hB1;have HB1:=Lib.hid hB1;have Hb1:=Lib.hid hb1;have hq0:=(blk_cell hb1 0).trans rfl;have hq1:=(blk_cell hb1 1).trans rfl;clear hB1 hb1 hg)|(go_at_call 31;refine (wageofficeref42_Valid.calls kv _ _ l0 _ _ l1 _ _ (Kd.C_below h0 HB1.out) hc0 (Kd.C_below h1 HB1.out) hc1 Hkv.out).mono ?_;rintro e w3 ⟨rfl,hb3⟩;rw [Hv.out];clear hq0 hq1;have hq0:=(blk_cell (blk_below Hb1.out hb3) 0).trans rfl;have HB3:=Lib.hid (below_then HB1.out HB1.out.size hb3);clear hb3 Hb1) )
         go_ret2
         exact ⟨rfl,HB3.out⟩
       · have e4:c > (l0.length:Int) - a:=by omega
         have e5:a ≤ (l0.length:Int):=by omega
         clear hn
         go_enter Try.func24,Try.ntmps24
         go_wp2_with (first|((with_reducible refine gate_dst (N:=3) rfl ?_);(refine box_event ?hg (N:=3) ?hd (cs:=#[.slice A0 l0.length c0,.slice A1 l1.length c1]) (t:=25) ?hr ?_);(case hd=>rfl);(case hg=>rfl);(case hr=>first|(go_simp;done)|(go_simp;rfl));intro g hg w1 hb1 hB1;have HB1:=Lib.hid hB1;have Hb1:=Lib.hid hb1;have hq0:=(blk_cell hb1 0).trans rfl;have hq1:=(blk_cell hb1 1).trans rfl;clear hB1 hb1 hg)|(go_at_call 31;refine (wageofficeref42_Valid.calls kv _ _ l0 _ _ l1 _ _ (Kd.C_below h0 HB1.out) hc0 (Kd.C_below h1 HB1.out) hc1 Hkv.out).mono ?_;rintro e w3 ⟨rfl,hb3⟩;rw [Hv.out];clear hq0 hq1;have hq0:=(blk_cell (blk_below Hb1.out hb3) 0).trans rfl;have HB3:=Lib.hid (below_then HB1.out HB1.out.size hb3);clear hb3 Hb1) )
         go_ret2
         exact ⟨rfl,HB3.out⟩
theorem field25 (u v:Value) (W:World):(Instr.field 25 (.agg #[u,v]) 0).run Try.prog W=.ok u W:=by
 have hu25:=Try.underlying25
 have hu22:=Try.underlying22
 simp [Instr.field,run_underlying hu25,run_underlying hu22,part,isAgg,asAgg,Result.andThen]
theorem field25b (u v:Value) (W:World):(Instr.field 25 (.agg #[u,v]) 1).run Try.prog W=.ok v W:=by
 have hu25:=Try.underlying25
 have hu23:=Try.underlying23
 simp [Instr.field,run_underlying hu25,run_underlying hu23,part,isAgg,asAgg,Result.andThen]
set_option maxHeartbeats 800000 in
theorem refRead_yes (A0:Option Addr) (c0:Nat) (l0:List Int) (A1:Option Addr) (c1:Nat) (l1:List S45) (a c:Int) (w:World)
 (h0:Kd.C (Kd.int .u8) w A0 l0.length l0) (hc0:l0.length ≤ c0) (h1:Kd.C k45 w A1 l1.length l1) (hc1:l1.length ≤ c1) (hr:readOk l0 l1 a c=true) :
  Calls Try.prog 24 #[.agg #[.slice A0 l0.length c0,.slice A1 l1.length c1],.int .i64 a,.int .i64 c] w fun e w'=>∃ v,e=.returned (.tuple #[v,.int .i64 0])∧Kd.Q (Kd.int .u8) 5 w' w.heap.size (fun _=>True) v (((syncL l0 l1).take (a + c).toNat).drop a.toNat)∧Below w.heap.size w w':=by
 have hu25:=Try.underlying25
 have hu22:=Try.underlying22
 obtain ⟨i5,hi5,_,hs5,_⟩:=info_parts info5
 obtain ⟨kv,hkv⟩:=(valid_ev l0 l1 (fit_of h1)).rounds
 have Hkv:=Lib.hid hkv
 clear hkv
 unfold readOk at hr
 rw [Bool.and_eq_true] at hr
 have hl:=((validB_iff l0 l1).1 hr.1).1
 obtain ⟨ks,hks⟩:=(sync_ev l0 l1 (fit_of h1) (by omega)).rounds
 have Hks:=Lib.hid hks
 clear hks
 obtain ⟨e0,e00,e1,e2⟩:=(isPartB_iff _ _ _).1 hr.2
 have hwr:IntKind.i64.wrap (a + c)=a + c:=IntWalk.i64_in _ (by omega)
 have hlen:(syncL l0 l1).length=l0.length:=by
  unfold syncL
  rw [if_pos hr.1]
  exact applyN_length _ l0 l1 hr.1 l1.length (Nat.le_refl _)
 have hac:0 ≤ a + c:=by omega
 have hac2:a ≤ a + c:=by omega
 have Hv:=Lib.hid hr.1
 have Hlen:=Lib.hid hlen
 have hfd:=field25
 clear hr hlen
 go_enter Try.func24,Try.ntmps24
 go_wp2_with (first|((with_reducible refine gate_dst (N:=3) rfl ?_);(refine box_event ?hg (N:=3) ?hd (cs:=#[.slice A0 l0.length c0,.slice A1 l1.length c1]) (t:=25) ?hr ?_);(case hd=>rfl);(case hg=>rfl);(case hr=>first|(go_simp;done)|(go_simp;rfl));intro g hg w1 hb1 hB1;have HB1:=Lib.hid hB1;have Hb1:=Lib.hid hb1;have hq0:=(blk_cell hb1 0).trans rfl;have hq1:=(blk_cell hb1 1).trans rfl;clear hB1 hb1 hg)|(go_at_call 31;refine (wageofficeref42_Valid.calls kv _ _ l0 _ _ l1 _ _ (Kd.C_below h0 HB1.out) hc0 (Kd.C_below h1 HB1.out) hc1 Hkv.out).mono ?_;rintro e w3 ⟨rfl,hb3⟩;rw [Hv.out];clear hq0 hq1;have hq0:=(blk_cell (blk_below Hb1.out hb3) 0).trans rfl;have hq1:=(blk_cell (blk_below Hb1.out hb3) 1).trans rfl;have HB3:=Lib.hid (below_then HB1.out HB1.out.size hb3);clear hb3 Hb1)|(go_at_call 27;refine (wageofficeref42_Sync.calls ks _ _ l0 _ _ l1 _ _ _ (Kd.C_below h0 HB3.out) hc0 (Kd.C_below h1 HB3.out) hc1 Hks.out).mono ?_;rintro e w4 ⟨v0,v1,rfl,hr4,hs4,hb4⟩;obtain ⟨A5,cap5,rfl⟩:=Kd.R_slice hr4;obtain ⟨A6,n6,cap6,rfl⟩:=S_any hs4;have hn5:=(Kd.R_reads' hr4).2.1;have hcut:=cut_mid (P:=Try.prog) 22 5 .i64 .i64 hu22 hi5 1 hs5 A5 (syncL l0 l1).length cap5 a (a + c) e0 hac2 (by rw [Hlen.out];omega) hn5;obtain ⟨dp,hdp⟩:∃ dp,dp=(if cap5=a.toNat then A5 else A5.map (·.add (a.toNat * 1))):=⟨_,rfl⟩;rw [← hdp] at hcut;have HQ:Hid (Kd.Q (Kd.int .u8) 5 w4 w3.heap.size (fun _=>True) (.slice dp ((a + c).toNat - a.toNat) (cap5 - a.toNat)) (((syncL l0 l1).take (a + c).toNat).drop a.toNat)):=(Lib.hid (by rw [hdp];exact Kd.Q_drop (Kd.Q_take (Kd.Q_of_R hr4) (by rw [Hlen.out];omega)) (by rw [List.length_take,Hlen.out];omega)));have HB4:=Lib.hid (below_then HB3.out HB3.out.size hb4);have HL4:=Lib.hid (HB3.out.size);clear hb4 hr4 hs4 hn5 hdp) )
 go_ret2
 exact ⟨_,rfl,Kd.Q_lower HQ.out HL4.out,HB4.out⟩
theorem wageofficeref42_Read.calls (A0_0:Option Addr) (c0_0:Nat) (l0_0:List Int) (A0_1:Option Addr) (c0_1:Nat) (l0_1:List (S45)) (a1:Int) (a2:Int) (r1:List Int) (r2:Int) (w:World) (hr0_0:Kd.C (Kd.int .u8) w A0_0 l0_0.length l0_0) (hc0_0:l0_0.length ≤ c0_0) (hr0_1:Kd.C k45 w A0_1 l0_1.length l0_1) (hc0_1:l0_1.length ≤ c0_1) (h:wageofficeref42_Read.f l0_0 l0_1 a1 a2=some (r1,r2)) :
 Calls Try.prog 24 #[.agg #[.slice A0_0 l0_0.length c0_0,.slice A0_1 l0_1.length c0_1],.int .i64 a1,.int .i64 a2] w fun e w'=>∃ v0_:Value,e=.returned (.tuple #[v0_,.int .i64 r2])∧Kd.Q (Kd.int .u8) 5 w' w.heap.size (fun _=>True) v0_ r1∧Below w.heap.size w w':=by
 unfold wageofficeref42_Read.f at h
 injection h with h
 obtain ⟨rfl,rfl⟩:=h
 cases hr:readOk l0_0 l0_1 a1 a2
 · refine (refRead_no _ _ l0_0 _ _ l0_1 a1 a2 w hr0_0 hc0_0 hr0_1 hc0_1 hr).mono ?_
   rintro e w' ⟨rfl,hb⟩
   refine ⟨_,rfl,?_,hb⟩
   unfold readL
   rw [hr,if_neg (by simp)]
   exact Kd.Q_nil _ _ _ _ _
 · refine (refRead_yes _ _ l0_0 _ _ l0_1 a1 a2 w hr0_0 hc0_0 hr0_1 hc0_1 hr).mono ?_
   rintro e w' ⟨v,rfl,hq,hb⟩
   refine ⟨_,rfl,?_,hb⟩
   unfold readL
   unfold readOk at hr
   rw [Bool.and_eq_true] at hr
   unfold syncL at hq
   rw [if_pos hr.1] at hq
   unfold readOk
   rw [hr.1,hr.2,Bool.and_self,if_pos rfl]
   exact hq
end Go.Proofs.Ytfpdmlhknddffaa.Dk
end
section
namespace Go.Proofs.Ytfpdmlhknddffaa.Dk
open Go.RowKit Go.Proofs.YtfpdmlhknddffaaW.PrintWords Go.Proofs.YtfpdmlhknddffaaW.PrintLast Go.Proofs.YtfpdmlhknddffaaW.PrintMore
open Go.ChangeShapes Go.WideShapes Go.ChangeAt Go.Joins Go.Deep
set_option linter.unusedVariables false
theorem laidOut : laidOutB Try.prog = true := by kernel_rfl
end Go.Proofs.Ytfpdmlhknddffaa.Dk
end
section
namespace Go.Proofs.Ytfpdmlhknddffaa.Dk
open Go.RowKit Go.Proofs.YtfpdmlhknddffaaW.PrintWords Go.Proofs.YtfpdmlhknddffaaW.PrintLast Go.Proofs.YtfpdmlhknddffaaW.PrintMore
open Go.ChangeShapes Go.WideShapes Go.ChangeAt Go.Joins Go.Deep
set_option linter.unusedVariables false
theorem open_row2 {w : World} {H : Type} {enc : TypeId × Value → H} {base : Nat} {spare : Nat → Bool} {held : Bool} {fuel : Nat} {cs : List Value} {x : DataW H × List MemPlace}
 (h : DataW.trod enc Try.prog w base spare held fuel 22 cs = some x) :
 ∃ (A : Option Addr) (c : Nat) (l : List Int), cs = [.slice A l.length c] ∧ l.length ≤ c ∧ Kd.C (Kd.int .u8) w A l.length l ∧ (∀ n ∈ l, (Lit.int .u8 n).wf = true) ∧ ∀ R, (∀ m ∈ x.1.weights Try.prog 22, m ≤ R) → l.length ≤ R := by
 rcases open_ints (k := .u8) (e := 5) Try.underlying22 (by kernel_rfl) (by kernel_rfl) h with ⟨rfl, rfl⟩ | ⟨a, len, cap, zs, rfl, _, hl, hm, hz, rfl, hcell, hwz⟩
 · exact ⟨none, 0, [], rfl, Nat.le_refl _, Kd.C_nil _ _, fun n hn => by simp at hn, fun _ _ => Nat.zero_le _⟩
 · have hle : len ≤ zs.length := by rw [hz]; split <;> omega
   have hlen : (zs.take len).length = len := by rw [List.length_take]; omega
   have hmax : cap ≤ 9223372036854775807 := hm
   have hr : ReadsInt w .u8 (some a) len (zs.take len) := ⟨hlen, by omega, fun _ => ⟨a, rfl, fun j hj => by
    rw [hcell j (by omega)]
    simp [List.getD, hj]⟩⟩
   refine ⟨some a, cap, zs.take len, by rw [hlen], by omega, ?_, fun n hn => hwz n (List.mem_of_mem_take hn), fun R hR => ?_⟩
   · rw [hlen]
     exact Kd.C_of_reads (d := (0 : Int)) (h1 := fun _ => rfl) hr
   · have hb : Try.prog.bytesOf 5 = 1 := by kernel_rfl
     have hu := Try.underlying22
     have := hR (((lits (H := H) .u8 (zs.take len)).length + (lits (H := H) .u8 (zs.drop len)).length) * Try.prog.bytesOf 5) (by simp [DataW.weights, hu])
     rw [hb] at this
     simp [lits] at this
     rw [hlen]
     omega
theorem weightsAll_mem {H : Type} {P : Program} {e : TypeId} {d : DataW H} : ∀ {l : List (DataW H)}, d ∈ l → ∀ m ∈ d.weights P e, m ∈ DataW.weightsAll P e l := by
 intro l
 induction l with
 | nil => intro h; simp at h
 | cons y l ih =>
  intro h m hm
  simp only [DataW.weightsAll, List.mem_append]
  rcases List.mem_cons.1 h with rfl | h
  · exact .inl hm
  · exact .inr (ih h m hm)
theorem open_writes2 {w : World} {H : Type} {enc : TypeId × Value → H} {base : Nat} {spare : Nat → Bool} {held : Bool} {fuel : Nat} {cs : List Value} {x : DataW H × List MemPlace}
 (h : DataW.trod enc Try.prog w base spare held fuel 23 cs = some x) :
 ∃ (A : Option Addr) (c : Nat) (l : List S45), cs = [.slice A l.length c] ∧ l.length ≤ c ∧ Kd.C k45 w A l.length l ∧ (∀ y ∈ l, (Lit.int .i64 y.f0).wf = true) ∧ (∀ y ∈ l, ∀ n ∈ y.f1, (Lit.int .u8 n).wf = true) ∧ ∀ R, (∀ m ∈ x.1.weights Try.prog 23, m ≤ R) → ∀ y ∈ l, y.f1.length ≤ R := by
 rcases open_slice_pairs Try.underlying23 Try.underlying45 (by kernel_rfl) rfl rfl (by kernel_rfl) (by kernel_rfl) h with ⟨rfl, _⟩ | ⟨a, len, cap, m, n, V0, V1, D0, D1, P0, P1, rfl, _, hl, hm, hmm, rfl, hcell⟩
 · exact ⟨none, 0, [], rfl, Nat.le_refl _, Kd.C_nil _ _, fun n hn => by simp at hn, fun n hn => by simp at hn, fun R _ n hn => by simp at hn⟩
 · have hle : len ≤ m := by rw [hmm]; split <;> omega
   have H : ∀ i, i < len → ∃ (y : S45) (A1 : Option Addr) (c1 : Nat), w.cell? (a.add (i * 2)) = some (.int .i64 y.f0) ∧ w.cell? (a.add (i * 2 + 1)) = some (.slice A1 y.f1.length c1) ∧ y.f1.length ≤ c1 ∧ Kd.C (Kd.int .u8) w A1 y.f1.length y.f1 ∧ (Lit.int .i64 y.f0).wf = true ∧ (∀ n ∈ y.f1, (Lit.int .u8 n).wf = true) ∧ ∀ R, (∀ m ∈ (D1 i).weights Try.prog 22, m ≤ R) → y.f1.length ≤ R := by
    intro i hi
    obtain ⟨h0, h1, t0, t1⟩ := hcell i (by omega)
    obtain ⟨n0, e0, _, wf0⟩ := DataW.trod_int (k := .i64) (by kernel_rfl) t0
    obtain ⟨A1, c1, l1, e1, hc1, hC1, hw1, hR1⟩ := open_row2 t1
    simp at e0 e1
    exact ⟨⟨n0, l1⟩, A1, c1, by rw [h0, e0], by rw [h1, e1], hc1, hC1, wf0, hw1, hR1⟩
   let F : Nat → S45 := fun i => if hi : i < len then Classical.choose (H i hi) else z45
   have HF : ∀ i, i < len → ∃ (A1 : Option Addr) (c1 : Nat), w.cell? (a.add (i * 2)) = some (.int .i64 (F i).f0) ∧ w.cell? (a.add (i * 2 + 1)) = some (.slice A1 (F i).f1.length c1) ∧ (F i).f1.length ≤ c1 ∧ Kd.C (Kd.int .u8) w A1 (F i).f1.length (F i).f1 ∧ (Lit.int .i64 (F i).f0).wf = true ∧ (∀ n ∈ (F i).f1, (Lit.int .u8 n).wf = true) ∧ ∀ R, (∀ m ∈ (D1 i).weights Try.prog 22, m ≤ R) → (F i).f1.length ≤ R := by
    intro i hi
    have e : F i = Classical.choose (H i hi) := dif_pos hi
    rw [e]
    exact Classical.choose_spec (H i hi)
   have hlen : ((List.range len).map F).length = len := by simp
   have hmax : cap ≤ 9223372036854775807 := hm
   refine ⟨some a, cap, (List.range len).map F, by rw [hlen], by omega, ?_, ?_, ?_, ?_⟩
   · rw [hlen]
     refine ⟨hlen, by omega, fun _ => ⟨a, rfl, fun j p hj => ?_⟩⟩
     have hj2 : j < len := by
      have := (List.getElem?_eq_some_iff.1 hj).1
      rw [hlen] at this
      exact this
     obtain rfl : F j = p := by simpa [hj2] using hj
     obtain ⟨A1, c1, q0, q1, q2, q3, _⟩ := HF j hj2
     refine ⟨[.int .i64 (F j).f0, .slice A1 (F j).f1.length c1], rfl, k45_mk w (F j) q2 q3, fun i u hu => ?_⟩
     match i, hu with
     | 0, hu => simp at hu; subst hu; exact q0
     | 1, hu => simp at hu; subst hu; exact q1
     | i + 2, hu => simp at hu
   · intro y hy
     obtain ⟨i, hi, rfl⟩ := List.mem_map.1 hy
     exact (HF i (List.mem_range.1 hi)).choose_spec.choose_spec.2.2.2.2.1
   · intro y hy
     obtain ⟨i, hi, rfl⟩ := List.mem_map.1 hy
     exact (HF i (List.mem_range.1 hi)).choose_spec.choose_spec.2.2.2.2.2.1
   · intro R hR y hy
     obtain ⟨i, hi, rfl⟩ := List.mem_map.1 hy
     refine (HF i (List.mem_range.1 hi)).choose_spec.choose_spec.2.2.2.2.2.2 R (fun q hq => hR q ?_)
     have hu := Try.underlying23
     have hu45 := Try.underlying45
     simp only [DataW.weights, hu, List.mem_cons, List.mem_append]
     refine .inr (.inl (weightsAll_mem (d := .agg [D0 i, D1 i]) (List.mem_map.2 ⟨i, hi, rfl⟩) q ?_))
     simp only [DataW.weights, hu45]
     simp [DataW.weightsEach, hq]
theorem open_u8s {r : Reach} {w : World} {H : Type} {enc : TypeId × Value → H} {base b0 : Nat} {spare : Nat → Bool} {held : Bool} {v : Value} {d : DataW H} {p : List MemPlace}
 (hv : Value.okWide Try.prog w r b0 22 v) (h : DataW.Trod enc Try.prog w base spare held 22 v d p) (hz : ∀ m ∈ d.weights Try.prog 22, m ≤ reachBytes) :
 ∃ (A : Option Addr) (c : Nat) (l : List Int), v = .slice A l.length c ∧ Kd.C (Kd.int .u8) w A l.length l ∧ l.length ≤ c ∧ (∀ n ∈ l, (Lit.int .u8 n).wf = true) ∧ l.length ≤ 140737488355328 := by
 obtain ⟨a, len, cap, rfl⟩ := okWide_slice Try.underlying22 hv
 obtain ⟨fuel, hf⟩ := h
 obtain ⟨A, c, l, e, hl, hC, hw, hR⟩ := open_row2 hf
 simp [Value.cells] at e
 obtain ⟨rfl, rfl, rfl⟩ := e
 exact ⟨_, _, l, rfl, hC, hl, hw, Nat.le_trans (hR _ hz) (by decide)⟩
theorem u16_of {n : Int} (h : (Lit.int .u16 n).wf = true) : 0 ≤ n ∧ n ≤ 65535 := bounds_u16 h
theorem u8_of {n : Int} (h : (Lit.int .u8 n).wf = true) : 0 ≤ n ∧ n ≤ 255 := bounds_u8 h
theorem open_disk2 {r : Reach} {w : World} {H : Type} {enc : TypeId × Value → H} {base b0 : Nat} {spare : Nat → Bool} {held : Bool} {v : Value} {d : DataW H} {p : List MemPlace}
 (hv : Value.okWide Try.prog w r b0 25 v) (h : DataW.Trod enc Try.prog w base spare held 25 v d p) (hz : ∀ m ∈ d.weights Try.prog 25, m ≤ reachBytes) :
 ∃ (A0 A1 : Option Addr) (c0 c1 : Nat) (l0 : List Int) (l1 : List S45), v = .agg #[.slice A0 l0.length c0, .slice A1 l1.length c1] ∧ Kd.C (Kd.int .u8) w A0 l0.length l0 ∧ l0.length ≤ c0 ∧ Kd.C k45 w A1 l1.length l1 ∧ l1.length ≤ c1 ∧ l0.length ≤ 140737488355328 ∧ (∀ x ∈ l1, x.f1.length ≤ 140737488355328) ∧ (∀ x ∈ l0, 0 ≤ x ∧ x ≤ 255) ∧ ∀ y ∈ l1, ∀ x ∈ y.f1, 0 ≤ x ∧ x ≤ 255 := by
 obtain ⟨v0, v1, y0, y1, n, rfl, rfl, _, t0, t1⟩ := open_agg2 Try.underlying25 (by kernel_rfl) (by kernel_rfl) hv h
 obtain ⟨A0, c0, l0, e0, h0, C0, w0, z0⟩ := open_row2 t0
 obtain ⟨A1, c1, l1, e1, h1, C1, _, w1, z1⟩ := open_writes2 t1
 simp at e0 e1
 subst e0 e1
 have hr : reachBytes ≤ 140737488355328 := by decide
 have hu := Try.underlying25
 have hz0 : ∀ m ∈ y0.1.weights Try.prog 22, m ≤ reachBytes := fun m hm => hz m (by simp [DataW.weights, hu, DataW.weightsEach, hm])
 have hz1 : ∀ m ∈ y1.1.weights Try.prog 23, m ≤ reachBytes := fun m hm => hz m (by simp [DataW.weights, hu, DataW.weightsEach, hm])
 exact ⟨A0, A1, c0, c1, l0, l1, rfl, C0, h0, C1, h1, Nat.le_trans (z0 _ hz0) hr, fun x hx => Nat.le_trans (z1 _ hz1 x hx) hr, fun x hx => u8_of (w0 x hx), fun y hy x hx => u8_of (w1 y hy x hx)⟩
end Go.Proofs.Ytfpdmlhknddffaa.Dk
end
section
namespace Go.Proofs.Ytfpdmlhknddffaa.Dk
open Go.RowKit Go.Proofs.YtfpdmlhknddffaaW.PrintWords Go.Proofs.YtfpdmlhknddffaaW.PrintLast Go.Proofs.YtfpdmlhknddffaaW.PrintMore
attribute [local go_sem] field25 field25b
set_option linter.unusedVariables false
set_option linter.unusedSimpArgs false
def Dsk (w:World) (base gd:Nat) (S:List Int) (P:List S45):Prop :=
 ∃ A c A' c',w.heap[gd]? = some (.cells #[.slice A S.length c,.slice A' P.length c'] 25 (0,0))∧Kd.R (Kd.int .u8) 5 w base (fun _=>True) (.slice A S.length c) S∧Kd.S k45 45 w base (fun _=>True) (.slice A' P.length c') P
theorem Dsk.below {w w1:World} {base gd:Nat} {S:List Int} {P:List S45} (h:Dsk w base gd S P) (hb:Below w.heap.size w w1):Dsk w1 base gd S P:=by
 obtain ⟨A,c,A',c',h1,h2,h3⟩:=h
 exact ⟨A,c,A',c',blk_below h1 hb,Kd.R_below h2 hb,Kd.S_below h3 hb⟩
theorem Dsk.put {w1:World} {base base' gd:Nat} {x y:Value} {S:List Int} {P:List S45} {v0 v1:Value} (hg:w1.heap[gd]? = some (.cells #[x,y] 25 (0,0)))
 (hr:Kd.R (Kd.int .u8) 5 w1 base' (fun _=>True) v0 S) (hs:Kd.S k45 45 w1 base' (fun k=>some k ≠ v0.ownBlock) v1 P) (hb:base ≤ base') :
 ∃ A c A' c',v0=.slice A S.length c∧v1=.slice A' P.length c'∧Dsk ((w1.setCell ⟨gd,0,none⟩ v0).setCell ⟨gd,1,none⟩ v1) base gd S P:=by
 obtain ⟨A,c,rfl⟩:=Kd.R_slice hr
 obtain ⟨A',c',rfl⟩:=Kd.S_slice hs
 refine ⟨A,c,A',c',rfl,rfl,A,c,A',c',two_cells hg _ _,?_,?_⟩
 · exact Kd.R_lower (Kd.R_set (Kd.R_set hr hg (by decide) 0 _) (blk_put hg 0 _ rfl) (by decide) 1 _) hb
 · exact Kd.S_lower (Kd.S_mono (Kd.S_set (Kd.S_set hs hg (by decide) 0 _) (blk_put hg 0 _ rfl) (by decide) 1 _) (fun _ _=>trivial)) hb
end Go.Proofs.Ytfpdmlhknddffaa.Dk
end
section
namespace Go.Proofs.Ytfpdmlhknddffaa.Dk
open Go.RowKit Go.Proofs.YtfpdmlhknddffaaW.PrintWords Go.Proofs.YtfpdmlhknddffaaW.PrintLast Go.Proofs.YtfpdmlhknddffaaW.PrintMore
end Go.Proofs.Ytfpdmlhknddffaa.Dk
end
section
namespace Go.Proofs.Ytfpdmlhknddffaa.Dk
open Go.RowKit Go.Proofs.YtfpdmlhknddffaaW.PrintWords Go.Proofs.YtfpdmlhknddffaaW.PrintLast Go.Proofs.YtfpdmlhknddffaaW.PrintMore
attribute [local go_sem] max2_int min2_int max_two min_two max_three min_three max_four min_four
set_option linter.unusedVariables false
set_option linter.unusedSimpArgs false
theorem k45_openF {W:World} {ok:Nat→Prop} {x:S45} {cs:List Value} (h:Kd.FK k45 W ok x cs):∃ A1 c1,cs=[.int .i64 x.f0,.slice A1 x.f1.length c1]∧x.f1.length ≤ c1∧Kd.F (Kd.int .u8) W ok A1 x.f1.length x.f1:=by
 obtain ⟨A1,c1,rfl,l1,_⟩:=k45_open (Kd.FK_now h)
 exact ⟨A1,c1,rfl,l1,(fun W' hW=>by obtain ⟨A1_,c1_,he,l1_,g1_⟩:=k45_open (h W' hW);injection (Option.some.inj (show some (Value.slice A1 x.f1.length c1)=some (Value.slice A1_ x.f1.length c1_) from congrArg (fun l=>l[1]?) he)) with ha_ _ _;rw [ha_];exact g1_)⟩
theorem k45_mkF (W:World) (ok:Nat→Prop) (x:S45) {A1:Option Addr} {c1:Nat} (l1:x.f1.length ≤ c1) (g1:Kd.F (Kd.int .u8) W ok A1 x.f1.length x.f1):Kd.FK k45 W ok x [.int .i64 x.f0,.slice A1 x.f1.length c1]:=fun W2 hW=>k45_mk W2 x l1 (g1 W2 hW)
structure S25 where
 f0:(List Int)
 f1:(List S45)
end Go.Proofs.Ytfpdmlhknddffaa.Dk
end
section
namespace Go.Proofs.Ytfpdmlhknddffaa.Dk
open Go.RowKit Go.Proofs.YtfpdmlhknddffaaW.PrintWords Go.Proofs.YtfpdmlhknddffaaW.PrintLast Go.Proofs.YtfpdmlhknddffaaW.PrintMore
set_option linter.unusedVariables false
set_option linter.unusedSimpArgs false
def stepS (x b:Int):Int:=bits .xor .u64 (IntKind.u64.wrap (bits .xor .u64 x (IntKind.u64.wrap b) * 1099511628211)) (shr .u64 (IntKind.u64.wrap (bits .xor .u64 x (IntKind.u64.wrap b) * 1099511628211)) 32)
theorem add_calls (g:Nat) (x b:Int) (w:World) (B:Nat) (hg:w.heap[g]? = some (.cells #[.int .u64 x] 83 (0,0))) (hB:B ≤ g) :
 Calls Try.prog 66 #[.pointer (some ⟨g,0,none⟩),.int .u8 b] w fun e w'=>e=.returned (.tuple #[])∧w'.heap[g]? = some (.cells #[.int .u64 (stepS x b)] 83 (0,0))∧Below B w w':=by
 have hu83:=Try.underlying83
 have Hg:=Lib.hid hg
 have HB:=Lib.hid hB
 have k0:w.cell? ⟨g,0,none⟩=some (.int .u64 x):=(blk_cell hg 0).trans rfl
 have k1:=blk_frozen hg 0
 clear hg hB
 go_enter Try.func66,Try.ntmps66
 go_wp2_with (fail)
 clear k0 k1
 obtain ⟨y,hy⟩:∃ y,y=IntKind.u64.wrap (bits .xor .u64 x (IntKind.u64.wrap b) * 1099511628211):=⟨_,rfl⟩
 rw [← hy]
 obtain ⟨w1,hw1⟩:∃ W,W=w.setCell ⟨g,0,none⟩ (.int .u64 y):=⟨_,rfl⟩
 rw [← hw1]
 have G1:Hid (w1.heap[g]? = some (.cells #[.int .u64 y] 83 (0,0))):=Lib.hid (by rw [hw1];exact blk_put Hg.out 0 _ rfl)
 have B1:Hid (Below B w w1):=Lib.hid (by rw [hw1];exact (Below.refl B w).setCell HB.out _)
 have Hy:=Lib.hid hy
 clear hy hw1
 refine start_ (n:=10) (S:=fun w'=>w'.cell? ⟨g,0,none⟩=some (.int .u64 y)) (ds:=[9]) #[false,false,false,false,false,false,false,false,false,false] (by kernel_rfl) rfl rfl (by exact (blk_cell (blk_drew G1.out) 0).trans rfl) ?_
 intro hHeld
 refine pure_ (i:=0) (N:=some 13) (v:=?_) (a':=?_) #[true,false,false,false,false,false,false,false,false,false] rfl rfl (by kernel_rfl) (fun _ _ _ h=>h) (Or.inl ⟨by rfl,?_⟩) ?_ ?_
 rotate_left
 · intro w'
   go_simp
   try (with_reducible rfl)
 rotate_left
 · simp only [Act.put,List.setIfInBounds_toArray,List.set_cons_zero,List.set_cons_succ]
   rfl
 refine pure_ (i:=1) (N:=some 14) (v:=?_) (a':=?_) #[true,true,false,false,false,false,false,false,false,false] rfl rfl (by kernel_rfl) (fun _ _ _ h=>h) (Or.inl ⟨by rfl,?_⟩) ?_ ?_
 rotate_left
 · intro w'
   go_simp
   try (with_reducible rfl)
 rotate_left
 · simp only [Act.put,List.setIfInBounds_toArray,List.set_cons_zero,List.set_cons_succ]
   rfl
 refine pure_ (i:=3) (N:=some 16) (v:=?_) (a':=?_) #[true,true,false,true,false,false,false,false,false,false] rfl rfl (by kernel_rfl) (fun _ _ _ h=>h) (Or.inl ⟨by rfl,?_⟩) ?_ ?_
 rotate_left
 · intro w'
   go_simp
   try (with_reducible rfl)
 rotate_left
 · simp only [Act.put,List.setIfInBounds_toArray,List.set_cons_zero,List.set_cons_succ]
   rfl
 refine pure_ (i:=4) (N:=some 17) (v:=?_) (a':=?_) #[true,true,false,true,true,false,false,false,false,false] rfl rfl (by kernel_rfl) (fun _ _ _ h=>h) (Or.inl ⟨by rfl,?_⟩) ?_ ?_
 rotate_left
 · intro w'
   go_simp
   try (with_reducible rfl)
 rotate_left
 · simp only [Act.put,List.setIfInBounds_toArray,List.set_cons_zero,List.set_cons_succ]
   rfl
 refine take_ (i:=2) (N:=some 15) (v:=?_) (a':=?_) #[true,true,true,true,true,false,false,false,false,false] rfl rfl (by kernel_rfl) (fun _ _ _ h=>h) (Or.inl ⟨by rfl,?_⟩) hHeld ?_ ?_
 rotate_left
 · intro w' s0
   go_simp
   with_reducible rfl
 rotate_left
 · simp only [Act.put,List.setIfInBounds_toArray,List.set_cons_zero,List.set_cons_succ]
   rfl
 refine take_ (i:=5) (N:=some 18) (v:=?_) (a':=?_) #[true,true,true,true,true,true,false,false,false,false] rfl rfl (by kernel_rfl) (fun _ _ _ h=>h) (Or.inl ⟨by rfl,?_⟩) hHeld ?_ ?_
 rotate_left
 · intro w' s0
   go_simp
   with_reducible rfl
 rotate_left
 · simp only [Act.put,List.setIfInBounds_toArray,List.set_cons_zero,List.set_cons_succ]
   rfl
 refine pure_ (i:=6) (N:=some 19) (v:=?_) (a':=?_) #[true,true,true,true,true,true,true,false,false,false] rfl rfl (by kernel_rfl) (fun _ _ _ h=>h) (Or.inl ⟨by rfl,?_⟩) ?_ ?_
 rotate_left
 · intro w'
   go_simp
   try (with_reducible rfl)
 rotate_left
 · simp only [Act.put,List.setIfInBounds_toArray,List.set_cons_zero,List.set_cons_succ]
   rfl
 refine pure_ (i:=7) (N:=some 20) (v:=?_) (a':=?_) #[true,true,true,true,true,true,true,true,false,false] rfl rfl (by kernel_rfl) (fun _ _ _ h=>h) (Or.inl ⟨by rfl,?_⟩) ?_ ?_
 rotate_left
 · intro w'
   go_simp
   try (with_reducible rfl)
 rotate_left
 · simp only [Act.put,List.setIfInBounds_toArray,List.set_cons_zero,List.set_cons_succ]
   rfl
 refine pure_ (i:=8) (N:=some 21) (v:=?_) (a':=?_) #[true,true,true,true,true,true,true,true,true,false] rfl rfl (by kernel_rfl) (fun _ _ _ h=>h) (Or.inl ⟨by rfl,?_⟩) ?_ ?_
 rotate_left
 · intro w'
   go_simp
   try (with_reducible rfl)
 rotate_left
 · simp only [Act.put,List.setIfInBounds_toArray,List.set_cons_zero,List.set_cons_succ]
   rfl
 have G2:=Lib.hid (blk_drew G1.out)
 have B2:=Lib.hid (below_drew B1.out)
 generalize w1.drew=w2 at G2 B2 hHeld ⊢
 have k0:=(blk_cell G2.out 0).trans rfl
 have k1:=blk_frozen G2.out 0
 refine last_ (i:=9) (N:=none) #[true,true,true,true,true,true,true,true,true,true] rfl rfl (by kernel_rfl) (by decide) (fun K hK => ?_)
 refine skip_ (w1:=?_) (by rfl) rfl ?_ ?_
 rotate_left
 · go_simp
   rfl
 refine hK.out _ _ ?_
 clear hK K
 refine done_ (by kernel_rfl) ?_
 refine bodyPost_end (v:=.tuple #[]) (by simp [results,Try.results66,go_sem]) rfl ⟨rfl,?_,B2.out.setCell HB.out _⟩
 unfold stepS
 rw [← Hy.out]
 exact blk_put G2.out 0 _ rfl
def finS (x n:Int):Int :=
 let y0:=bits .xor .u64 x (IntKind.u64.wrap n)
 let y1:=bits .xor .u64 y0 (shr .u64 y0 31)
 let y2:=IntKind.u64.wrap (y1 * 13787848793156543929)
 let y3:=bits .xor .u64 y2 (shr .u64 y2 27)
 let y4:=IntKind.u64.wrap (y3 * 10723151780598845931)
 bits .xor .u64 y4 (shr .u64 y4 33)
theorem digest_calls (g:Nat) (x n:Int) (w:World) (hg:w.heap[g]? = some (.cells #[.int .u64 x] 83 (0,0))) :
 Calls Try.prog 67 #[.pointer (some ⟨g,0,none⟩),.int .i64 n] w fun e w'=>e=.returned (.int .u64 (finS x n))∧Below w.heap.size w w':=by
 have hu83:=Try.underlying83
 have hu77:=Try.underlying77
 have k0:w.cell? ⟨g,0,none⟩=some (.int .u64 x):=(blk_cell hg 0).trans rfl
 clear hg
 go_enter Try.func67,Try.ntmps67
 go_wp2
 go_ret
 exact ⟨rfl,Below.refl _ _⟩
end Go.Proofs.Ytfpdmlhknddffaa.Dk
end
section
namespace Go.Proofs.Ytfpdmlhknddffaa.Dk
open Go.RowKit Go.Proofs.YtfpdmlhknddffaaW.PrintWords Go.Proofs.YtfpdmlhknddffaaW.PrintLast Go.Proofs.YtfpdmlhknddffaaW.PrintMore
set_option linter.unusedVariables false
set_option linter.unusedSimpArgs false
theorem below_trans {B:Nat} {w w1 w2:World} (h:Below B w w1) (k:Below B w1 w2):Below B w w2:=h.trans k
def foldS (l:List Int):Int:=l.foldl stepS 2611923443488327891
def sumS (s:ByteArray):Int:=finS (foldS (bytesOf s)) (s.size:Int)
theorem sum_calls (s:ByteArray) (w:World) (hs:s.size ≤ 140737488355328):Calls Try.prog 61 #[.string s] w fun e w'=>e=.returned (.int .u64 (sumS s))∧Below w.heap.size w w':=by
 have hu83:=Try.underlying83
 have hu77:=Try.underlying77
 have hu84:=Try.underlying84
 have hlen:(bytesOf s).length=s.size:=bytesOf_length s
 have Hlen:=Lib.hid hlen
 clear hlen
 go_enter Try.func61,Try.ntmps61
 go_wp2_with (first|((with_reducible refine gate_dst (N:=3) rfl ?_);(refine box_event ?hg (N:=3) ?hd (cs:=#[.int .u64 0]) (t:=83) ?hr ?_);(case hd=>rfl);(case hg=>rfl);(case hr=>first|(go_simp;done)|(go_simp;rfl));intro g hg w1 hb1 hB1;have Hg:Hid (w.heap.size ≤ g):=(Lib.hid (by rw [hg];exact Nat.le_refl _));have HB1:=Lib.hid hB1;have Hb1:=Lib.hid hb1;have k0:=(blk_cell hb1 0).trans rfl;have k1:=blk_frozen hb1 0;clear hb1 hB1 hg) )
 clear k0 k1
 obtain ⟨w2,hw2⟩:∃ W,W=w1.setCell ⟨g,0,none⟩ (.int .u64 2611923443488327891):=⟨_,rfl⟩
 rw [← hw2]
 have Hb2:Hid (w2.heap[g]? = some (.cells #[.int .u64 2611923443488327891] 83 (0,0))):=Lib.hid (by rw [hw2];exact blk_put Hb1.out 0 _ rfl)
 have HB2:Hid (Below w.heap.size w w2):=Lib.hid (by rw [hw2];exact HB1.out.setCell Hg.out _)
 clear hw2
 go_loopg [9] s.size (fun k v9 wr=>∃ i:Nat,i ≤ s.size∧k=s.size - i∧v9=.int .i64 i∧Hid (wr.heap[g]? = some (.cells #[.int .u64 (foldS ((bytesOf s).take i))] 83 (0,0)))∧Hid (Below w.heap.size w wr))
 case atStart=>exact ⟨0,by omega,by omega,rfl,Hb2,HB2⟩
 case round =>
  obtain ⟨i,hi,rfl,rfl,Hbr,HBr⟩:=hrel
  by_cases hlt:i < s.size
  · have hbi:(bytesOf s)[i]? = some ((s[i].toNat:Nat):Int):=by
     rw [List.getElem?_eq_getElem (by rw [Hlen.out];exact hlt)]
     simp only [bytesOf,List.getElem_map]
     rfl
    have Hbi:=Lib.hid hbi
    clear hbi
    go_wp2_with (go_at_call 66;refine (add_calls g _ _ wr w.heap.size Hbr.out Hg.out).mono ?_;rintro e w3 ⟨rfl,hb3,hB3⟩;have Hb3:=Lib.hid hb3;have HB3:=Lib.hid (below_trans HBr.out hB3);clear hb3 hB3)
    go_roundg (s.size - (i + 1))
    case measure=>omega
    case rel =>
     refine ⟨i + 1,by omega,rfl,by go_num,Lib.hid ?_,HB3⟩
     have e:foldS ((bytesOf s).take (i + 1))=stepS (foldS ((bytesOf s).take i)) ((s[i].toNat:Nat):Int):=by
      unfold foldS
      rw [List.take_add_one,Hbi.out,Option.toList_some,List.foldl_append]
      rfl
     rw [e]
     exact Hb3.out
  · have hi2:i=s.size:=by omega
    subst hi2
    go_wp2_with (go_at_call 67;refine (digest_calls g _ _ wr Hbr.out).mono ?_;rintro e w3 ⟨rfl,hB3⟩;have HB3:=Lib.hid (below_then HBr.out HBr.out.size hB3);clear hB3)
    go_ret
    refine ⟨?_,HB3.out⟩
    have e:(bytesOf s).take s.size=bytesOf s:=List.take_of_length_le (Nat.le_of_eq Hlen.out)
    rw [e]
    rfl
end Go.Proofs.Ytfpdmlhknddffaa.Dk
end
section
namespace Go.Proofs.Ytfpdmlhknddffaa.Dk
open Go.RowKit Go.Proofs.YtfpdmlhknddffaaW.PrintWords Go.Proofs.YtfpdmlhknddffaaW.PrintLast Go.Proofs.YtfpdmlhknddffaaW.PrintMore
def digest_Sum.f (a0:ByteArray):Option Int:=if a0.size ≤ 140737488355328 then some (sumS a0) else none
theorem digest_Sum.calls (a0:ByteArray) (r:Int) (w:World) (h:digest_Sum.f a0=some r):Calls Try.prog 61 #[.string a0] w fun e w'=>e=.returned (.int .u64 r)∧Below w.heap.size w w':=by
 unfold digest_Sum.f at h
 by_cases hs:a0.size ≤ 140737488355328
 · rw [if_pos hs] at h
   injection h with h
   subst h
   exact sum_calls a0 w hs
 · rw [if_neg hs] at h
   exact absurd h (by simp)
end Go.Proofs.Ytfpdmlhknddffaa.Dk
end
section
namespace Go.Proofs.Ytfpdmlhknddffaa.Dk
open Go.RowKit Go.Proofs.YtfpdmlhknddffaaW.PrintWords Go.Proofs.YtfpdmlhknddffaaW.PrintLast Go.Proofs.YtfpdmlhknddffaaW.PrintMore
attribute [local go_sem] field25 field25b max2_int min2_int max_two min_two max_three min_three max_four min_four
set_option linter.unusedVariables false
set_option linter.unusedSimpArgs false
theorem info22:(Try.prog.info? 22).map (fun i=>(i.zero,i.size,i.bytes))=some (some (.slice none 0 0),1,24):=by kernel_rfl
end Go.Proofs.Ytfpdmlhknddffaa.Dk
end
section
namespace Go.Proofs.Ytfpdmlhknddffaa.Dk
open Go.RowKit Go.Proofs.YtfpdmlhknddffaaW.PrintWords Go.Proofs.YtfpdmlhknddffaaW.PrintLast Go.Proofs.YtfpdmlhknddffaaW.PrintMore
attribute [local go_sem] field25 field25b max2_int min2_int max_two min_two max_three min_three max_four min_four
set_option linter.unusedVariables false
set_option linter.unusedSimpArgs false
mutual
def journal_number.l0:Nat→List Int→Int→List Int→Int→Int→Option (List Int)
 | 0,_,_,_,_,_=>none
 | k + 1,x0,x1,x10,x11,x12=>if x12 < x11 then (if 0 ≤ x12 then (if x12 < (x10.length:Int) then (journal_number.l1 k x0 x1 (rd x10 x12) (wrap64 (x1 - 1)) x10 x11 x12) else (none)) else (none)) else (some x0)
def journal_number.l1:Nat→List Int→Int→Int→Int→List Int→Int→Int→Option (List Int)
 | 0,_,_,_,_,_,_,_=>none
 | k + 1,x0,x1,x8,x9,x10,x11,x12=>if x9 ≥ 0 then (if 0 ≤ (wrap64 (8 * x9)) then (if x0.length < 140737488355328 then (journal_number.l1 k (x0 ++ [(shr .u64 x8 (wrap64 (8 * x9))) % 256]) x1 x8 (wrap64 (x9 - 1)) x10 x11 x12) else (none)) else (none)) else (journal_number.l0 k x0 x1 x10 x11 (wrap64 (x12 + 1)))
end
def journal_number.f (k:Nat) (l0:List Int) (a1:Int) (l2:List Int):Option (List Int):=journal_number.l0 k l0 a1 l2 (l2.length:Int) 0
set_option maxHeartbeats 8000000 in
set_option maxRecDepth 100000 in
theorem journal_number.calls (k:Nat) (P0_:Nat→Prop) (u9000_:Value) (l0:List Int) (a1:Int) (A2:Option Addr) (c2:Nat) (l2:List Int) (r:List Int) (w0 w:World) (hB:Below w0.heap.size w0 w) (ho0:Kd.R (Kd.int .u8) 5 w w0.heap.size P0_ u9000_ l0) (hr2:∀ W_,Kept w W_ (fun k_=>P0_ k_)→Kd.C (Kd.int .u64) W_ A2 l2.length l2) (hc2:l2.length ≤ c2) (h:journal_number.f k l0 a1 l2=some r) :
 Calls Try.prog 60 #[u9000_,.int .i64 a1,.slice A2 l2.length c2] w fun e w'=>∃ v0_:Value,e=.returned (v0_)∧Kd.R (Kd.int .u8) 5 w' w0.heap.size (fun k_=>(P0_ k_∨w.heap.size ≤ k_)) v0_ r∧Below w0.heap.size w0 w'∧Kept w w' (fun k_=>P0_ k_):=by
 have HO0:=Aside0.mk (show Kd.R (Kd.int .u8) 5 w w0.heap.size (fun k_=>(P0_ k_∨w.heap.size ≤ k_)) u9000_ l0 from Kd.R_mono ho0 (fun k_ hk=>(.inl hk)))
 have HR2:=Aside0.mk hr2
 have HC2:=Aside0.mk hc2
 clear hr2 hc2
 have HK:=Aside0.mk (Kept.refl w (fun k_=>P0_ k_))
 have HW0:=Aside0.mk hB.size
 have HB:=Aside0.mk hB
 clear hB
 have H:(journal_number.l0 k l0 a1 l2 (l2.length:Int) 0)=some r:=h
 clear h
 have H':=Aside0.mk H
 clear H
 go_enter Try.func60,Try.ntmps60
 go_wp2
 go_loopg [0,12] k (fun kq v0 v12 w'=>∃ (x0_1:List Int) (x12_1:Int),v12=.int .i64 x12_1∧Aside0 (journal_number.l0 kq x0_1 a1 l2 (l2.length:Int) x12_1=some r)∧Aside0 (kq ≤ k)∧Aside0 (Kd.R (Kd.int .u8) 5 w' w0.heap.size (fun k_=>(P0_ k_∨w.heap.size ≤ k_)) v0 x0_1)∧Aside0 (Kept w w' (fun k_=>P0_ k_))∧Aside0 (Below w0.heap.size w0 w'))
 case atStart=>exact ⟨(l0),(0),(by first|rfl|(simp;done)|(simp [*];done)),H',⟨Nat.le_refl _⟩,⟨by (with_reducible repeat (first|apply Kd.R_alloc|apply Kd.R_drewN|apply Kd.R_drew));exact HO0.out⟩,⟨by repeat (first|(with_reducible first|exact HK.out|apply Kept.alloc|apply Kept.drewN|apply Kept.drew)|exact HK.out)⟩,⟨by repeat (first|(with_reducible first|exact HB.out|apply below_alloc|apply pw_below_drewN|apply below_drew1)|exact HB.out)⟩⟩
 case round =>
  clear H'
  try clear c2
  try clear p2
  obtain ⟨x0_1,x12_1,rfl,HA,HK1,HO_0,HK,HB⟩:=hrel
  cases gk with
  | zero=>exact absurd HA.out (by simp [journal_number.l0])
  | succ k1 =>
   have H:=HA.out
   clear HA
   simp only [journal_number.l0] at H
   by_cases c4:x12_1 < (l2.length:Int)
   · rw [if_pos c4] at H
     have c4b0:decide (x12_1 < (l2.length:Int))=true:=decide_eq_true c4
     clear c4
     by_cases c5:0 ≤ x12_1
     · rw [if_pos c5] at H
       have c5b0:decide (0 ≤ x12_1)=true:=decide_eq_true c5
       clear c5
       by_cases c6:x12_1 < (l2.length:Int)
       · rw [if_pos c6] at H
         have c6b0:decide (x12_1 < (l2.length:Int))=true:=decide_eq_true c6
         clear c6
         have H':=Aside0.mk H
         clear H
         have p107:0 ≤ (x12_1:Int):=of_decide_eq_true (by first|(with_reducible assumption)|assumption)
         have q107:x12_1 < (l2.length:Int):=of_decide_eq_true (by first|(with_reducible assumption)|assumption)
         obtain ⟨ad107,e107,hx107_0⟩:=Kd.at_int (Kd.C_kept_now HR2.out HK.out) x12_1 p107 q107
         cases e107
         replace p107:=eq_true p107
         replace q107:=eq_true q107
         go_wp2
         go_loopg [0,9] k1 (fun kq v0 v9 w'=>∃ (x0_2:List Int) (x9_2:Int),v9=.int .i64 x9_2∧Aside0 (journal_number.l1 kq x0_2 a1 (rd l2 x12_1) x9_2 l2 (l2.length:Int) x12_1=some r)∧Aside0 (kq ≤ k1)∧Aside0 (Kd.R (Kd.int .u8) 5 w' w0.heap.size (fun k_=>(P0_ k_∨w.heap.size ≤ k_)) v0 x0_2)∧Aside0 (Kept w w' (fun k_=>P0_ k_))∧Aside0 (Below w0.heap.size w0 w'))
         case atStart=>exact ⟨(x0_1),(wrap64 (a1 - 1)),(by first|rfl|(simp;done)|(simp [*];done)),H',⟨Nat.le_refl _⟩,⟨by (with_reducible repeat (first|apply Kd.R_alloc|apply Kd.R_drewN|apply Kd.R_drew));exact HO_0.out⟩,⟨by repeat (first|(with_reducible first|exact HK.out|apply Kept.alloc|apply Kept.drewN|apply Kept.drew)|exact HK.out)⟩,⟨by repeat (first|(with_reducible first|exact HB.out|apply below_alloc|apply pw_below_drewN|apply below_drew1)|exact HB.out)⟩⟩
         case round =>
          clear H'
          try clear p1
          try clear q1
          try clear hx1
          try clear c2
          try clear p2
          try clear c4
          try clear c4b0
          try clear c5
          try clear c5b0
          try clear c6
          try clear c6b0
          try clear p6
          try clear hx107_0
          try clear p107
          try clear p2
          try clear q107
          obtain ⟨x0_2,x9_2,rfl,HA,HK2,HO_0,HK,HB⟩:=hrel
          cases gk with
          | zero=>exact absurd HA.out (by simp [journal_number.l1])
          | succ k2 =>
           have H:=HA.out
           clear HA
           simp only [journal_number.l1] at H
           by_cases c7:x9_2 ≥ 0
           · rw [if_pos c7] at H
             have c7b0:decide (0 ≤ x9_2)=true:=decide_eq_true c7
             clear c7
             obtain ⟨ji8,hji8⟩:∃ j_:Int,(wrap64 (8 * x9_2))=j_:=⟨_,rfl⟩
             replace H:(if 0 ≤ (ji8) then (if x0_2.length < 140737488355328 then (journal_number.l1 k2 (x0_2 ++ [(shr .u64 (rd l2 x12_1) (ji8)) % 256]) a1 (rd l2 x12_1) (wrap64 (x9_2 - 1)) l2 (l2.length:Int) x12_1) else (none)) else (none))=some r:=by first|(rw [hji8] at H;exact H)|(simp only [hji8] at H ⊢;exact H)
             have hji8w:(IntKind.i64.wrap (8 * x9_2))=ji8:=(i64_w _).trans hji8
             by_cases c9:0 ≤ (ji8)
             · rw [if_pos c9] at H
               have c9b0:=eq_true c9
               have c9b1:decide (0 ≤ (ji8))=true:=decide_eq_true c9
               clear c9
               obtain ⟨ji10,hji10⟩:∃ j_:Int,(shr .u64 (rd l2 x12_1) (ji8))=j_:=⟨_,rfl⟩
               replace H:(if x0_2.length < 140737488355328 then (journal_number.l1 k2 (x0_2 ++ [(ji10) % 256]) a1 (rd l2 x12_1) (wrap64 (x9_2 - 1)) l2 (l2.length:Int) x12_1) else (none))=some r:=by first|(rw [hji10] at H;exact H)|(simp only [hji10] at H ⊢;exact H)
               have hji10_:((rd l2 x12_1) / 2 ^ min (ji8).toNat 64)=ji10:=hji10
               have hji10z:(ji8) ≤ 64→((rd l2 x12_1) / 2 ^ (ji8).toNat)=ji10:=shr_small hji10
               by_cases c11:x0_2.length < 140737488355328
               · rw [if_pos c11] at H
                 have LMc11:=Aside0.mk c11
                 clear c11
                 obtain ⟨y108,hy108⟩:∃ y_:List Int,y_=(x0_2 ++ [(ji10) % 256]):=⟨_,rfl⟩
                 replace H:(journal_number.l1 k2 y108 a1 (rd l2 x12_1) (wrap64 (x9_2 - 1)) l2 (l2.length:Int) x12_1)=some r:=by first|(rw [hy108];with_reducible exact H)|(have H2_:=(Option.bind_some _ _).symm.trans H;rw [hy108];with_reducible exact H2_)|(have H2_:=(Option.bind_some _ _).symm.trans H;with_reducible exact H2_)|with_reducible exact H|(rw [hy108];exact H)|exact H
                 have Ny108:=Aside0.mk hy108
                 clear hy108
                 have H':=Aside0.mk H
                 clear H
                 go_wp2_with (first|((with_reducible refine gate_builtin (b:=.append) (xs:=#[.tmp 22,.tmp 28]) rfl ?_);at_builtin;refine Kd.R_append (Kd.int .u8) (w0:=w0) w0.heap.size rfl (.tmp 22) (.tmp 28) 22 5 (.int .u8 0) 1 rfl Try.underlying22 info5 rfl (by decide) (by omega) u0 x0_2 ((ji10) % 256) [.int .u8 ((ji10) % 256)] (fun k_=>(P0_ k_∨w.heap.size ≤ k_)) (fun _=>False) rfl rfl ?aP (fun _ hk=>hk.elim) ?aF ?aO ?aB ?aS ?aL ?_;(case aP=>exact rfl);(case aB=>exact (by repeat (first|(with_reducible first|exact HB.out|apply below_alloc|apply pw_below_drewN|apply below_drew1)|exact HB.out)));(case aF=>exact (fun k_ hk=>(.inr (Nat.le_trans (by first|exact HK.out.1|exact (show Kept w _ (fun k_=>P0_ k_) from by repeat (first|(with_reducible first|exact HK.out|apply Kept.alloc|apply Kept.drewN|apply Kept.drew)|exact HK.out)).1) hk))));(case aO=>exact (by (with_reducible repeat (first|apply Kd.R_alloc|apply Kd.R_drewN|apply Kd.R_drew));exact HO_0.out));(case aS=>exact (below_size (by repeat (first|(with_reducible first|exact HB.out|apply below_alloc|apply pw_below_drewN|apply below_drew1)|exact HB.out))));(case aL=>have:=LMc11.out;omega);intro v109 w12 ho hb hg hat;rw [← Ny108.out] at ho;have n0_:=Aside0.mk (hb);have n1_:=Aside0.mk (Kept.of_grown (S:=(fun k_=>P0_ k_)) hg (by repeat (first|(with_reducible first|exact HK.out|apply Kept.alloc|apply Kept.drewN|apply Kept.drew)|exact HK.out)) (fun k_ e_=>(HO_0.out.1 k_ e_)));have n2_:=Aside0.mk (ho);clear HB;clear HK;clear HO_0;have HB:=n0_;have HK:=n1_;have HO110:=n2_;clear n0_ n1_ n2_;clear ho hb hg hat))
                 go_roundg k2
                 case measure=>have:=HK1.out;have:=HK2.out;omega
                 case rel=>exact ⟨(y108),(wrap64 (x9_2 - 1)),(by first|rfl|(simp;done)|(simp [*];done)),H',⟨by have:=HK1.out;have:=HK2.out;omega⟩,⟨by (with_reducible repeat (first|apply Kd.R_alloc|apply Kd.R_drewN|apply Kd.R_drew));exact HO110.out⟩,⟨by repeat (first|(with_reducible first|exact HK.out|apply Kept.alloc|apply Kept.drewN|apply Kept.drew)|exact HK.out)⟩,⟨by repeat (first|(with_reducible first|exact HB.out|apply below_alloc|apply pw_below_drewN|apply below_drew1)|exact HB.out)⟩⟩
               · rw [if_neg c11] at H
                 exact absurd H (by simp)
             · rw [if_neg c9] at H
               exact absurd H (by simp)
           · rw [if_neg c7] at H
             have c7b0:decide (0 ≤ x9_2)=false:=decide_eq_false c7
             clear c7
             have H':=Aside0.mk H
             clear H
             go_wp2
             go_roundg k2
             case measure=>have:=HK1.out;have:=HK2.out;omega
             case rel=>exact ⟨(x0_2),(wrap64 (x12_1 + 1)),(by first|rfl|(simp;done)|(simp [*];done)),H',⟨by have:=HK1.out;have:=HK2.out;omega⟩,⟨by (with_reducible repeat (first|apply Kd.R_alloc|apply Kd.R_drewN|apply Kd.R_drew));exact HO_0.out⟩,⟨by repeat (first|(with_reducible first|exact HK.out|apply Kept.alloc|apply Kept.drewN|apply Kept.drew)|exact HK.out)⟩,⟨by repeat (first|(with_reducible first|exact HB.out|apply below_alloc|apply pw_below_drewN|apply below_drew1)|exact HB.out)⟩⟩
       · rw [if_neg c6] at H
         exact absurd H (by simp)
     · rw [if_neg c5] at H
       exact absurd H (by simp)
   · rw [if_neg c4] at H
     have c4b0:decide (x12_1 < (l2.length:Int))=false:=decide_eq_false c4
     clear c4
     obtain rfl:=Option.some.inj H
     go_wp2
     go_ret
     exact ⟨_,by first|rfl|(simp [errW_none,errW_some] <;> rfl)|(simp [*,errW_none,errW_some] <;> rfl),by (with_reducible repeat (first|apply Kd.R_alloc|apply Kd.R_drewN|apply Kd.R_drew));exact HO_0.out,by repeat (first|(with_reducible first|exact HB.out|apply below_alloc|apply pw_below_drewN|apply below_drew1)|exact HB.out),by repeat (first|(with_reducible first|exact HK.out|apply Kept.alloc|apply Kept.drewN|apply Kept.drew)|exact HK.out)⟩
def journal_encode.f (k:Nat) (l0:List Int) (a1:Int):Option (List Int):=(journal_number.f k ([]:List Int) 2 (([IntKind.u64.wrap ((l0.length:Int)),IntKind.u64.wrap (Go.bits .and .i64 a1 65535)]:List Int))).bind fun t114=>(if (strOfNums t114).size + (strOfNums l0).size ≤ 9223372036854775807 then ((digest_Sum.f ((strOfNums t114) ++ (strOfNums l0))).bind fun t117=>((some (([82]:List Int):List Int)).bind fun y118=>(if y118.length + t114.length < 140737488355328 then ((journal_number.f k (y118 ++ t114) 8 (([t117]:List Int))).bind fun t127=>(if t127.length + l0.length < 140737488355328 then (some (t127 ++ l0)) else (none))) else (none)))) else (none))
set_option maxHeartbeats 8000000 in
set_option maxRecDepth 100000 in
theorem journal_encode.calls (k:Nat) (A0:Option Addr) (c0:Nat) (l0:List Int) (a1:Int) (r:List Int) (w:World) (hr0:Kd.C (Kd.int .u8) w A0 l0.length l0) (hc0:l0.length ≤ c0) (h:journal_encode.f k l0 a1=some r) :
 Calls Try.prog 51 #[.slice A0 l0.length c0,.int .i64 a1] w fun e w'=>∃ v0_:Value,e=.returned (v0_)∧Kd.R (Kd.int .u8) 5 w' w.heap.size (fun _=>True) v0_ r∧Below w.heap.size w w':=by
 have HR0:=Aside0.mk hr0
 have HC0:=Aside0.mk hc0
 clear hr0 hc0
 have HB:=Aside0.mk (Below.refl w.heap.size w)
 have H:((journal_number.f k ([]:List Int) 2 (([IntKind.u64.wrap ((l0.length:Int)),IntKind.u64.wrap (Go.bits .and .i64 a1 65535)]:List Int))).bind fun t114=>(if (strOfNums t114).size + (strOfNums l0).size ≤ 9223372036854775807 then ((digest_Sum.f ((strOfNums t114) ++ (strOfNums l0))).bind fun t117=>((some (([82]:List Int):List Int)).bind fun y118=>(if y118.length + t114.length < 140737488355328 then ((journal_number.f k (y118 ++ t114) 8 (([t117]:List Int))).bind fun t127=>(if t127.length + l0.length < 140737488355328 then (some (t127 ++ l0)) else (none))) else (none)))) else (none)))=some r:=h
 clear h
 obtain ⟨y111,hy111⟩:∃ y_:List Int,y_=(([IntKind.u64.wrap ((l0.length:Int)),IntKind.u64.wrap (Go.bits .and .i64 a1 65535)]:List Int)):=⟨_,rfl⟩
 replace H:((journal_number.f k ([]:List Int) 2 y111).bind fun t114=>(if (strOfNums t114).size + (strOfNums l0).size ≤ 9223372036854775807 then ((digest_Sum.f ((strOfNums t114) ++ (strOfNums l0))).bind fun t117=>((some (([82]:List Int):List Int)).bind fun y118=>(if y118.length + t114.length < 140737488355328 then ((journal_number.f k (y118 ++ t114) 8 (([t117]:List Int))).bind fun t127=>(if t127.length + l0.length < 140737488355328 then (some (t127 ++ l0)) else (none))) else (none)))) else (none)))=some r:=by first|(rw [hy111];with_reducible exact H)|(have H2_:=(Option.bind_some _ _).symm.trans H;rw [hy111];with_reducible exact H2_)|(have H2_:=(Option.bind_some _ _).symm.trans H;with_reducible exact H2_)|with_reducible exact H|(rw [hy111];exact H)|exact H
 have Ny111:=Aside0.mk hy111
 clear hy111
 replace H:=Option.bind_eq_some_iff.mp H
 obtain ⟨t114,A30,H⟩:=H
 replace H:(if (strOfNums t114).size + (strOfNums l0).size ≤ 9223372036854775807 then ((digest_Sum.f ((strOfNums t114) ++ (strOfNums l0))).bind fun t117=>((some (([82]:List Int):List Int)).bind fun y118=>(if y118.length + t114.length < 140737488355328 then ((journal_number.f k (y118 ++ t114) 8 (([t117]:List Int))).bind fun t127=>(if t127.length + l0.length < 140737488355328 then (some (t127 ++ l0)) else (none))) else (none)))) else (none))=some r:=H
 have A3:=Aside0.mk A30
 clear A30
 by_cases c4:(strOfNums t114).size + (strOfNums l0).size ≤ 9223372036854775807
 · rw [if_pos c4] at H
   have c4b0:=eq_true c4
   have c4b1:decide ((strOfNums t114).size + (strOfNums l0).size ≤ 9223372036854775807)=true:=decide_eq_true c4
   try have c4b2:(9223372036854775807 < (strOfNums t114).size + (strOfNums l0).size)=False:=eq_false (Nat.not_lt.2 c4)
   replace H:=Option.bind_eq_some_iff.mp H
   obtain ⟨t117,A50,H⟩:=H
   replace H:((some (([82]:List Int):List Int)).bind fun y118=>(if y118.length + t114.length < 140737488355328 then ((journal_number.f k (y118 ++ t114) 8 (([t117]:List Int))).bind fun t127=>(if t127.length + l0.length < 140737488355328 then (some (t127 ++ l0)) else (none))) else (none)))=some r:=H
   have A5:=Aside0.mk A50
   clear A50
   obtain ⟨y118,hy118⟩:∃ y_:List Int,y_=(([82]:List Int)):=⟨_,rfl⟩
   replace H:(if y118.length + t114.length < 140737488355328 then ((journal_number.f k (y118 ++ t114) 8 (([t117]:List Int))).bind fun t127=>(if t127.length + l0.length < 140737488355328 then (some (t127 ++ l0)) else (none))) else (none))=some r:=by first|(rw [hy118];with_reducible exact H)|(have H2_:=(Option.bind_some _ _).symm.trans H;rw [hy118];with_reducible exact H2_)|(have H2_:=(Option.bind_some _ _).symm.trans H;with_reducible exact H2_)|with_reducible exact H|(rw [hy118];exact H)|exact H
   have Ny118:=Aside0.mk hy118
   clear hy118
   by_cases c6:y118.length + t114.length < 140737488355328
   · rw [if_pos c6] at H
     have LMc6:=Aside0.mk c6
     clear c6
     obtain ⟨y121,hy121⟩:∃ y_:List Int,y_=(y118 ++ t114):=⟨_,rfl⟩
     replace H:((journal_number.f k y121 8 (([t117]:List Int))).bind fun t127=>(if t127.length + l0.length < 140737488355328 then (some (t127 ++ l0)) else (none)))=some r:=by first|(rw [hy121];with_reducible exact H)|(have H2_:=(Option.bind_some _ _).symm.trans H;rw [hy121];with_reducible exact H2_)|(have H2_:=(Option.bind_some _ _).symm.trans H;with_reducible exact H2_)|with_reducible exact H|(rw [hy121];exact H)|exact H
     have Ny121:=Aside0.mk hy121
     clear hy121
     obtain ⟨y124,hy124⟩:∃ y_:List Int,y_=(([t117]:List Int)):=⟨_,rfl⟩
     replace H:((journal_number.f k y121 8 y124).bind fun t127=>(if t127.length + l0.length < 140737488355328 then (some (t127 ++ l0)) else (none)))=some r:=by first|(rw [hy124];with_reducible exact H)|(have H2_:=(Option.bind_some _ _).symm.trans H;rw [hy124];with_reducible exact H2_)|(have H2_:=(Option.bind_some _ _).symm.trans H;with_reducible exact H2_)|with_reducible exact H|(rw [hy124];exact H)|exact H
     have Ny124:=Aside0.mk hy124
     clear hy124
     replace H:=Option.bind_eq_some_iff.mp H
     obtain ⟨t127,A70,H⟩:=H
     replace H:(if t127.length + l0.length < 140737488355328 then (some (t127 ++ l0)) else (none))=some r:=H
     have A7:=Aside0.mk A70
     clear A70
     by_cases c8:t127.length + l0.length < 140737488355328
     · rw [if_pos c8] at H
       have LMc8:=Aside0.mk c8
       clear c8
       obtain ⟨y130,hy130⟩:∃ y_:List Int,y_=(t127 ++ l0):=⟨_,rfl⟩
       replace H:(some y130)=some r:=by first|(rw [hy130];with_reducible exact H)|(have H2_:=(Option.bind_some _ _).symm.trans H;rw [hy130];with_reducible exact H2_)|(have H2_:=(Option.bind_some _ _).symm.trans H;with_reducible exact H2_)|with_reducible exact H|(rw [hy130];exact H)|exact H
       have Ny130:=Aside0.mk hy130
       clear hy130
       obtain rfl:=Option.some.inj H
       go_enter Try.func51,Try.ntmps51
       go_wp2_with (first|((with_reducible refine gate_dst (N:=14) rfl ?_);refine Kd.R_lit (Kd.int .u64) _ 76 ?hg (N:=14) ?hd (xs:=([IntKind.u64.wrap ((l0.length:Int)),IntKind.u64.wrap (Go.bits .and .i64 a1 65535)]:List Int)) (inner:=[.int .u64 (IntKind.u64.wrap ((l0.length:Int))),.int .u64 (IntKind.u64.wrap (Go.bits .and .i64 a1 65535))]) (ok:=fun _=>True) (okp:=fun _=>True) ?hr ?hp (fun _ hk=>hk) trivial (Below.refl _ _) (Nat.le_refl _) (by simp) ?_;(case hd=>rfl);(case hg=>rfl);(case hr=>first|(go_simp;done)|(go_simp;rfl));(case hp=>exact (Reps.one (show Kd.M (Kd.int .u64) _ _ _ (IntKind.u64.wrap ((l0.length:Int))) [.int .u64 (IntKind.u64.wrap ((l0.length:Int)))] from rfl) (Reps.one (show Kd.M (Kd.int .u64) _ _ _ (IntKind.u64.wrap (Go.bits .and .i64 a1 65535)) [.int .u64 (IntKind.u64.wrap (Go.bits .and .i64 a1 65535))] from rfl) (Reps.none _ _))));intro v112 w9 ho10 hb hg_ hnew_;clear hg_ hnew_;(first|rw [← Ny111.out] at ho10|(simp only [Int.reduceToNat] at ho10;rw [← Ny111.out] at ho10));have n0_:=Aside0.mk (Kd.R_lower ho10 (below_size (by repeat (first|(with_reducible first|exact HB.out|apply below_alloc|apply pw_below_drewN|apply below_drew1)|exact HB.out))));have n1_:=Aside0.mk (below_step (by repeat (first|(with_reducible first|exact HB.out|apply below_alloc|apply pw_below_drewN|apply below_drew1)|exact HB.out)) hb);clear HB;have HO113:=n0_;have HB:=n1_;clear n0_ n1_;clear hb ho10;obtain ⟨Ao11,co11,eo11⟩:=Kd.R_slice HO113.out;subst eo11)|((with_reducible refine gate_callee (f:=60) rfl ?_);refine goesL_ (some 15) rfl rfl Try.func60 (by kernel_rfl) rfl #[.slice none 0 0,.int .i64 2,.slice Ao11 y111.length co11] rfl (by (try simp only [List.map_toArray,List.map_cons,List.map_nil]);first|done|rfl|(simp only [List.length_drop,List.length_take];rfl)) ?_;(refine (journal_number.calls k (fun k_=>some k_=(.slice none 0 0:Value).ownBlock) (.slice none 0 0) ([]:List Int) 2 _ _ y111 t114 w _ ?side1 ?side2 ?side3 ?side4 A3.out).mono ?_);(case side1=>repeat (first|(with_reducible first|exact HB.out|apply below_alloc|apply pw_below_drewN|apply below_drew1)|exact HB.out));(case side2=>exact Kd.R_nil _ _ _ _ _);(case side3=>exact Kd.C_kept_own (HO113.out) (fun k_ hk_ hs_=>(fun e_=>by simp [Value.ownBlock] at e_) hs_));(case side4=>exact (Kd.R_reads' HO113.out).2.1);rintro e w12 ⟨v115,rfl,ho0,hb,hkp⟩;refine ⟨_,rfl,?_⟩;have n0_:=Aside0.mk (Kd.R_mono (ok':=fun k_=>True) (Kd.R_keptB (HO113.out) hkp (fun k_ hk_ hs_=>(fun e_=>by simp [Value.ownBlock] at e_) hs_)) (fun k_ hk_=>trivial));have n1_:=Aside0.mk (Kd.R_mono (ok':=fun k_=>True) ho0 (fun k_ hk_=>trivial));have n2_:=Aside0.mk (hb);clear HO113;clear HB;have HO113:=n0_;have HO116:=n1_;have HB:=n2_;clear n0_ n1_ n2_;(try clear hb);(try clear hkp);(try clear ho0);have hcv13:=own_string (P:=Try.prog) Try.underlying22 Try.underlying5 Try.underlying9 (Kd.own_of_R HO116.out);have hcv14:=Kd.C_string (P:=Try.prog) (A:=A0) (c:=c0) Try.underlying22 Try.underlying5 Try.underlying9 (Kd.C_below HR0.out HB.out))|((with_reducible refine gate_callee (f:=61) rfl ?_);refine goesL_ (some 21) rfl rfl Try.func61 (by kernel_rfl) rfl #[.string ((strOfNums t114) ++ (strOfNums l0))] rfl (by (try simp only [List.map_toArray,List.map_cons,List.map_nil]);first|done|rfl|(simp only [List.length_drop,List.length_take];rfl)) ?_;(with_reducible refine (digest_Sum.calls ((strOfNums t114) ++ (strOfNums l0)) t117 _ A5.out).mono ?_);rintro e w15 ⟨rfl,hb⟩;refine ⟨_,rfl,?_⟩;have n0_:=Aside0.mk (Kd.R_below (by (with_reducible repeat (first|apply Kd.R_alloc|apply Kd.R_drewN|apply Kd.R_drew));exact HO113.out) hb);have n1_:=Aside0.mk (Kd.R_below (by (with_reducible repeat (first|apply Kd.R_alloc|apply Kd.R_drewN|apply Kd.R_drew));exact HO116.out) hb);have n2_:=Aside0.mk (below_step (by repeat (first|(with_reducible first|exact HB.out|apply below_alloc|apply pw_below_drewN|apply below_drew1)|exact HB.out)) hb);clear HO113;clear HO116;clear HB;have HO113:=n0_;have HO116:=n1_;have HB:=n2_;clear n0_ n1_ n2_;(try clear hb);(try clear hb2);(try clear hk);(try clear hi))|((with_reducible refine gate_dst (N:=22) rfl ?_);refine Kd.R_lit (Kd.int .u8) _ 5 ?hg (N:=22) ?hd (xs:=([82]:List Int)) (inner:=[.int .u8 82]) (ok:=fun _=>True) (okp:=fun _=>True) ?hr ?hp (fun _ hk=>hk) trivial (Below.refl _ _) (Nat.le_refl _) (by simp) ?_;(case hd=>rfl);(case hg=>rfl);(case hr=>first|(go_simp;done)|(go_simp;rfl));(case hp=>exact (Reps.one (show Kd.M (Kd.int .u8) _ _ _ 82 [.int .u8 82] from rfl) (Reps.none _ _)));intro v119 w16 ho17 hb hg_ hnew_;clear hg_ hnew_;(first|rw [← Ny118.out] at ho17|(simp only [Int.reduceToNat] at ho17;rw [← Ny118.out] at ho17));have n0_:=Aside0.mk (Kd.R_below (by (with_reducible repeat (first|apply Kd.R_alloc|apply Kd.R_drewN|apply Kd.R_drew));exact HO113.out) hb);have n1_:=Aside0.mk (Kd.R_elder' (by (with_reducible repeat (first|apply Kd.R_alloc|apply Kd.R_drewN|apply Kd.R_drew));exact HO116.out) (Kd.R_base ho17) hb);have n2_:=Aside0.mk (Kd.R_lower (Kd.R_new' ho17 (Kd.R_lt (by (with_reducible repeat (first|apply Kd.R_alloc|apply Kd.R_drewN|apply Kd.R_drew));exact HO116.out))) (below_size (by repeat (first|(with_reducible first|exact HB.out|apply below_alloc|apply pw_below_drewN|apply below_drew1)|exact HB.out))));have n3_:=Aside0.mk (below_step (by repeat (first|(with_reducible first|exact HB.out|apply below_alloc|apply pw_below_drewN|apply below_drew1)|exact HB.out)) hb);clear HO113;clear HO116;clear HB;have HO113:=n0_;have HO116:=n1_;have HO120:=n2_;have HB:=n3_;clear n0_ n1_ n2_ n3_;clear hb ho17;obtain ⟨Ao19,co19,eo19⟩:=Kd.R_slice HO116.out;subst eo19)|((with_reducible refine gate_builtin (b:=.append) (xs:=#[.tmp 22,.tmp 23]) rfl ?_);at_builtin;refine Kd.R_append_rows (Kd.int .u8) (w0:=w) w.heap.size rfl (.tmp 22) (.tmp 23) 22 5 (.int .u8 0) 1 rfl Try.underlying22 info5 rfl (by decide) (by omega) v119 y118 t114 _ _ _ (fun k_=>some k_ ≠ (.slice Ao19 t114.length co19:Value).ownBlock) (fun _=>False) rfl rfl ?aO ?aR (fun _ _ h=>h) (fun _ h=>h.elim) ?aF ?aB ?aS ?aL ?_;(case aR=>repeat (first|exact (Kd.R_reads' HO116.out).2.2|(with_reducible refine Kd.C_alloc ?_ _)|(with_reducible refine Kd.C_drewN ?_ _)|(with_reducible refine Kd.C_drew ?_)));(case aB=>exact (by repeat (first|(with_reducible first|exact HB.out|apply below_alloc|apply pw_below_drewN|apply below_drew1)|exact HB.out)));(case aF=>exact (fun k_ hk=>Kd.fresh' (Kd.R_lt (by (with_reducible repeat (first|apply Kd.R_alloc|apply Kd.R_drewN|apply Kd.R_drew));exact HO116.out)) k_ hk));(case aO=>exact (by (with_reducible repeat (first|apply Kd.R_alloc|apply Kd.R_drewN|apply Kd.R_drew));exact Kd.R_mono HO120.out (fun _ hk=>hk.2)));(case aS=>exact (below_size (by repeat (first|(with_reducible first|exact HB.out|apply below_alloc|apply pw_below_drewN|apply below_drew1)|exact HB.out))));(case aL=>have:=LMc6.out;omega);intro v122 w18 ho hb hg hat;rw [← Ny121.out] at ho;have n0_:=Aside0.mk (Kd.R_over' (by (with_reducible repeat (first|apply Kd.R_alloc|apply Kd.R_drewN|apply Kd.R_drew));exact HO113.out) (Kd.R_typed (by (with_reducible repeat (first|apply Kd.R_alloc|apply Kd.R_drewN|apply Kd.R_drew));exact HO120.out)) (by decide) hg);have n1_:=Aside0.mk (Kd.R_after (ok:=(fun _=>True)) (by (with_reducible repeat (first|apply Kd.R_alloc|apply Kd.R_drewN|apply Kd.R_drew));exact HO116.out) hg hat);have n2_:=Aside0.mk (hb);have n3_:=Aside0.mk (ho);clear HO113;clear HO116;clear HB;clear HO120;have HO113:=n0_;have HO116:=n1_;have HB:=n2_;have HO123:=n3_;clear n0_ n1_ n2_ n3_;clear ho hb hg hat)|((with_reducible refine gate_dst (N:=26) rfl ?_);refine Kd.R_lit (Kd.int .u64) _ 76 ?hg (N:=26) ?hd (xs:=([t117]:List Int)) (inner:=[.int .u64 t117]) (ok:=fun _=>True) (okp:=fun _=>True) ?hr ?hp (fun _ hk=>hk) trivial (Below.refl _ _) (Nat.le_refl _) (by simp) ?_;(case hd=>rfl);(case hg=>rfl);(case hr=>first|(go_simp;done)|(go_simp;rfl));(case hp=>exact (Reps.one (show Kd.M (Kd.int .u64) _ _ _ t117 [.int .u64 t117] from rfl) (Reps.none _ _)));intro v125 w20 ho21 hb hg_ hnew_;clear hg_ hnew_;(first|rw [← Ny124.out] at ho21|(simp only [Int.reduceToNat] at ho21;rw [← Ny124.out] at ho21));have n0_:=Aside0.mk (Kd.R_elder' (by (with_reducible repeat (first|apply Kd.R_alloc|apply Kd.R_drewN|apply Kd.R_drew));exact HO113.out) (Kd.R_base ho21) hb);have n1_:=Aside0.mk (Kd.R_below (by (with_reducible repeat (first|apply Kd.R_alloc|apply Kd.R_drewN|apply Kd.R_drew));exact HO116.out) hb);have n2_:=Aside0.mk (Kd.R_below (by (with_reducible repeat (first|apply Kd.R_alloc|apply Kd.R_drewN|apply Kd.R_drew));exact HO123.out) hb);have n3_:=Aside0.mk (Kd.R_lower (Kd.R_new' ho21 (Kd.R_lt (by (with_reducible repeat (first|apply Kd.R_alloc|apply Kd.R_drewN|apply Kd.R_drew));exact HO113.out))) (below_size (by repeat (first|(with_reducible first|exact HB.out|apply below_alloc|apply pw_below_drewN|apply below_drew1)|exact HB.out))));have n4_:=Aside0.mk (below_step (by repeat (first|(with_reducible first|exact HB.out|apply below_alloc|apply pw_below_drewN|apply below_drew1)|exact HB.out)) hb);clear HO113;clear HO116;clear HO123;clear HB;have HO113:=n0_;have HO116:=n1_;have HO123:=n2_;have HO126:=n3_;have HB:=n4_;clear n0_ n1_ n2_ n3_ n4_;clear hb ho21;obtain ⟨Ao22,co22,eo22⟩:=Kd.R_slice HO123.out;subst eo22;obtain ⟨Ao23,co23,eo23⟩:=Kd.R_slice HO126.out;subst eo23)|((with_reducible refine gate_callee (f:=60) rfl ?_);refine goesL_ (some 27) rfl rfl Try.func60 (by kernel_rfl) rfl #[.slice Ao22 y121.length co22,.int .i64 8,.slice Ao23 y124.length co23] rfl (by (try simp only [List.map_toArray,List.map_cons,List.map_nil]);first|done|rfl|(simp only [List.length_drop,List.length_take];rfl)) ?_;(with_reducible refine (journal_number.calls k (fun k_=>some k_=(.slice Ao22 y121.length co22:Value).ownBlock) (.slice Ao22 y121.length co22) y121 8 _ _ y124 t127 w _ ?side1 ?side2 ?side3 ?side4 A7.out).mono ?_);(case side1=>repeat (first|(with_reducible first|exact HB.out|apply below_alloc|apply pw_below_drewN|apply below_drew1)|exact HB.out));(case side2=>exact Kd.R_tight rfl HO123.out);(case side3=>exact Kd.C_kept_own ((Kd.R_apart' HO126.out (Kd.R_typed HO123.out) (by decide))) (fun k_ hk_ hs_=>(hk_.2) hs_));(case side4=>exact (Kd.R_reads' HO126.out).2.1);rintro e w24 ⟨v128,rfl,ho0,hb,hkp⟩;refine ⟨_,rfl,?_⟩;have n0_:=Aside0.mk (Kd.R_mono (ok':=fun k_=>some k_ ≠ (.slice Ao23 y124.length co23:Value).ownBlock) (Kd.R_keptB ((Kd.R_apart' HO113.out (Kd.R_typed HO123.out) (by decide))) hkp (fun k_ hk_ hs_=>(hk_.2) hs_)) (fun k_ hk_=>hk_.1.1.2));have n1_:=Aside0.mk (Kd.R_mono (ok':=fun k_=>some k_ ≠ (v128:Value).ownBlock) (Kd.R_keptB (HO116.out) hkp (fun k_ hk_ hs_=>(hk_.2) hs_)) (fun k_ hk_=>fun e_=>Or.elim (ho0.1 k_ e_.symm) (fun hs_=>hk_.2.1 hs_) (fun hn_=>Nat.not_le.2 hk_.2.2 hn_)));have n2_:=Aside0.mk (Kd.R_mono (ok':=fun k_=>some k_ ≠ (.slice Ao11 y111.length co11:Value).ownBlock) (Kd.R_keptB ((Kd.R_apart' HO126.out (Kd.R_typed HO123.out) (by decide))) hkp (fun k_ hk_ hs_=>(hk_.2) hs_)) (fun k_ hk_=>hk_.1.1.2));have n3_:=Aside0.mk (Kd.R_mono (ok':=fun k_=>some k_ ≠ (.slice Ao19 t114.length co19:Value).ownBlock) ho0 (fun k_ hk_=>Or.elim hk_ (fun hs_=>fun e_=>(((HO116.out).1 k_ e_.symm).2) hs_) (fun hn_=>(Kd.fresh' (Kd.R_lt (by (with_reducible repeat (first|apply Kd.R_alloc|apply Kd.R_drewN|apply Kd.R_drew));exact HO116.out)) k_ hn_))));have n4_:=Aside0.mk (hb);clear HO113;clear HO116;clear HO126;clear HB;clear HO123;have HO113:=n0_;have HO116:=n1_;have HO126:=n2_;have HO129:=n3_;have HB:=n4_;clear n0_ n1_ n2_ n3_ n4_;(try clear hb);(try clear hkp);(try clear ho0))|((with_reducible refine gate_builtin (b:=.append) (xs:=#[.tmp 28,.tmp 29]) rfl ?_);at_builtin;refine Kd.R_append_rows (Kd.int .u8) (w0:=w) w.heap.size rfl (.tmp 28) (.tmp 29) 22 5 (.int .u8 0) 1 rfl Try.underlying22 info5 rfl (by decide) (by omega) v128 t127 l0 _ _ _ (fun k_=>some k_ ≠ (.slice Ao19 t114.length co19:Value).ownBlock) (fun _=>False) rfl rfl ?aO ?aR (fun _ _ h=>h) (fun _ h=>h.elim) ?aF ?aB ?aS ?aL ?_;(case aR=>repeat (first|exact (Kd.C_below HR0.out HB.out)|(with_reducible refine Kd.C_alloc ?_ _)|(with_reducible refine Kd.C_drewN ?_ _)|(with_reducible refine Kd.C_drew ?_)));(case aB=>exact (by repeat (first|(with_reducible first|exact HB.out|apply below_alloc|apply pw_below_drewN|apply below_drew1)|exact HB.out)));(case aF=>exact (fun k_ hk=>Kd.fresh' (Kd.R_lt (by (with_reducible repeat (first|apply Kd.R_alloc|apply Kd.R_drewN|apply Kd.R_drew));exact HO116.out)) k_ hk));(case aO=>exact (by (with_reducible repeat (first|apply Kd.R_alloc|apply Kd.R_drewN|apply Kd.R_drew));exact HO129.out));(case aS=>exact (below_size (by repeat (first|(with_reducible first|exact HB.out|apply below_alloc|apply pw_below_drewN|apply below_drew1)|exact HB.out))));(case aL=>have:=LMc8.out;omega);intro v131 w25 ho hb hg hat;rw [← Ny130.out] at ho;have n0_:=Aside0.mk (Kd.R_over' (by (with_reducible repeat (first|apply Kd.R_alloc|apply Kd.R_drewN|apply Kd.R_drew));exact HO113.out) (Kd.R_typed (by (with_reducible repeat (first|apply Kd.R_alloc|apply Kd.R_drewN|apply Kd.R_drew));exact HO129.out)) (by decide) hg);have n1_:=Aside0.mk (Kd.R_after (ok:=(fun _=>True)) (by (with_reducible repeat (first|apply Kd.R_alloc|apply Kd.R_drewN|apply Kd.R_drew));exact Kd.R_mono HO116.out (fun _ hk=>⟨trivial,hk⟩)) hg hat);have n2_:=Aside0.mk (Kd.R_over' (by (with_reducible repeat (first|apply Kd.R_alloc|apply Kd.R_drewN|apply Kd.R_drew));exact HO126.out) (Kd.R_typed (by (with_reducible repeat (first|apply Kd.R_alloc|apply Kd.R_drewN|apply Kd.R_drew));exact HO129.out)) (by decide) hg);have n3_:=Aside0.mk (hb);have n4_:=Aside0.mk (ho);clear HO113;clear HO116;clear HO126;clear HB;clear HO129;have HO113:=n0_;have HO116:=n1_;have HO126:=n2_;have HB:=n3_;have HO132:=n4_;clear n0_ n1_ n2_ n3_ n4_;clear ho hb hg hat))
       go_ret
       exact ⟨_,by first|rfl|(simp [errW_none,errW_some] <;> rfl)|(simp [*,errW_none,errW_some] <;> rfl),by (with_reducible repeat (first|apply Kd.R_alloc|apply Kd.R_drewN|apply Kd.R_drew));exact Kd.R_mono HO132.out (fun _ hk=>trivial),by repeat (first|(with_reducible first|exact HB.out|apply below_alloc|apply pw_below_drewN|apply below_drew1)|exact HB.out)⟩
     · rw [if_neg c8] at H
       exact absurd H (by simp)
   · rw [if_neg c6] at H
     exact absurd H (by simp)
 · rw [if_neg c4] at H
   exact absurd H (by simp)
def journal_put.f (l0_0:List Int) (l0_1:List (S45)) (a1:Int) (l2:List Int):Option (List Int × (List (S45)) × Int):=(disk_Sync.f l0_0 l0_1).bind fun bt135=>((disk_Write.f bt135.1 bt135.2 a1 l2).bind fun bt141=>(if bt141.2.2=0 then ((disk_Sync.f bt141.1 bt141.2.1).bind fun bt148=>(some (bt148.1,bt148.2,0))) else (some (([]:List Int),([]:List (S45)),bt141.2.2))))
set_option maxHeartbeats 8000000 in
set_option maxRecDepth 100000 in
theorem journal_put.calls (A0_0:Option Addr) (c0_0:Nat) (l0_0:List Int) (A0_1:Option Addr) (c0_1:Nat) (l0_1:List (S45)) (a1:Int) (A2:Option Addr) (c2:Nat) (l2:List Int) (r1:List Int) (r2:List (S45)) (r3:Int) (w:World) (hr0_0:Kd.C (Kd.int .u8) w A0_0 l0_0.length l0_0) (hc0_0:l0_0.length ≤ c0_0) (hr0_1:Kd.C k45 w A0_1 l0_1.length l0_1) (hc0_1:l0_1.length ≤ c0_1) (hr2:Kd.C (Kd.int .u8) w A2 l2.length l2) (hc2:l2.length ≤ c2) (h:journal_put.f l0_0 l0_1 a1 l2=some (r1,r2,r3)) :
 Calls Try.prog 52 #[.agg #[.slice A0_0 l0_0.length c0_0,.slice A0_1 l0_1.length c0_1],.int .i64 a1,.slice A2 l2.length c2] w fun e w'=>∃ v0_ v1_:Value,e=.returned (.tuple #[.agg #[v0_,v1_],.int .i64 r3])∧Kd.R (Kd.int .u8) 5 w' w.heap.size (fun _=>True) v0_ r1∧Kd.S k45 45 w' w.heap.size (fun k_=>some k_ ≠ (v0_:Value).ownBlock) v1_ r2∧Below w.heap.size w w':=by
 have hu25:=Try.underlying25
 have HR0_0:=Aside0.mk hr0_0
 have HC0_0:=Aside0.mk hc0_0
 clear hr0_0 hc0_0
 have HR0_1:=Aside0.mk hr0_1
 have HC0_1:=Aside0.mk hc0_1
 clear hr0_1 hc0_1
 have HR2:=Aside0.mk hr2
 have HC2:=Aside0.mk hc2
 clear hr2 hc2
 have HB:=Aside0.mk (Below.refl w.heap.size w)
 have H:((disk_Sync.f l0_0 l0_1).bind fun bt135=>((disk_Write.f bt135.1 bt135.2 a1 l2).bind fun bt141=>(if bt141.2.2=0 then ((disk_Sync.f bt141.1 bt141.2.1).bind fun bt148=>(some (bt148.1,bt148.2,0))) else (some (([]:List Int),([]:List (S45)),bt141.2.2)))))=some (r1,r2,r3):=h
 clear h
 replace H:=Option.bind_eq_some_iff.mp H
 obtain ⟨⟨t135,t138⟩,A40,H⟩:=H
 replace H:((disk_Write.f t135 t138 a1 l2).bind fun bt141=>(if bt141.2.2=0 then ((disk_Sync.f bt141.1 bt141.2.1).bind fun bt148=>(some (bt148.1,bt148.2,0))) else (some (([]:List Int),([]:List (S45)),bt141.2.2))))=some (r1,r2,r3):=H
 have A4:=Aside0.mk A40
 clear A40
 replace H:=Option.bind_eq_some_iff.mp H
 obtain ⟨⟨t141,t144,t147⟩,A50,H⟩:=H
 replace H:(if t147=0 then ((disk_Sync.f t141 t144).bind fun bt148=>(some (bt148.1,bt148.2,0))) else (some (([]:List Int),([]:List (S45)),t147)))=some (r1,r2,r3):=H
 have A5:=Aside0.mk A50
 clear A50
 by_cases c6:t147=0
 · rw [if_pos c6] at H
   have c6b0:(t147 == 0)=true:=beq_iff_eq.mpr c6
   have c6b1:(t147 != 0)=false:=bne_eq_false_iff_eq.mpr c6
   clear c6
   replace H:=Option.bind_eq_some_iff.mp H
   obtain ⟨⟨t148,t151⟩,A70,H⟩:=H
   replace H:(some (t148,t151,0))=some (r1,r2,r3):=H
   have A7:=Aside0.mk A70
   clear A70
   simp only [Option.some.injEq,Prod.mk.injEq] at H
   obtain ⟨rfl,rfl,rfl⟩:=H
   go_enter Try.func52,Try.ntmps52
   go_wp2_with (first|((with_reducible refine gate_dst (N:=3) rfl ?_);refine box_event ?hg (N:=3) ?hd (cs:=#[.slice A0_0 l0_0.length c0_0,.slice A0_1 l0_1.length c0_1]) (t:=25) ?hr ?_;(case hd=>rfl);(case hg=>rfl);(case hr=>first|(go_simp;done)|(go_simp;rfl));intro gb133 hg w8 hbox hb;have n0_:=Aside0.mk (below_step (by repeat (first|(with_reducible first|exact HB.out|apply below_alloc|apply pw_below_drewN|apply below_drew1)|exact HB.out)) hb);have n1_:=Aside0.mk (hbox);have n2_:=Aside0.mk ((by rw [hg];exact (below_size (by repeat (first|(with_reducible first|exact HB.out|apply below_alloc|apply pw_below_drewN|apply below_drew1)|exact HB.out))):w.heap.size ≤ gb133));have n3_:=Aside0.mk ((by rw [hg];exact (below_size (by repeat (first|(with_reducible first|exact HB.out|apply below_alloc|apply pw_below_drewN|apply below_drew1)|exact HB.out))):w.heap.size ≤ gb133));clear HB;have HB:=n0_;have BK133:=n1_;have GW133:=n2_;have GE133:=n3_;clear n0_ n1_ n2_ n3_;clear hb hbox hg)|((with_reducible refine gate_dst (N:=6) rfl ?_);refine box_event ?hg (N:=6) ?hd (cs:=#[.slice none 0 0,.slice none 0 0]) (t:=25) ?hr ?_;(case hd=>rfl);(case hg=>rfl);(case hr=>first|(go_simp;done)|(go_simp;rfl));intro gb134 hg w9 hbox hb;have n0_:=Aside0.mk (blk_below (g:=gb133) (o:=.cells #[.slice A0_0 l0_0.length c0_0,.slice A0_1 l0_1.length c0_1] 25 (0,0)) (by (with_reducible repeat (first|refine blk_drewN ?_ _|refine blk_drew ?_|refine blk_alloc ?_ _));exact BK133.out) hb);have n1_:=Aside0.mk (below_step (by repeat (first|(with_reducible first|exact HB.out|apply below_alloc|apply pw_below_drewN|apply below_drew1|refine below_set ?_ GE133.out)|exact HB.out)) hb);have n2_:=Aside0.mk (hbox);have n3_:=Aside0.mk ((by rw [hg];exact (below_size (by repeat (first|(with_reducible first|exact HB.out|apply below_alloc|apply pw_below_drewN|apply below_drew1|refine below_set ?_ GE133.out)|exact HB.out))):w.heap.size ≤ gb134));have n4_:=Aside0.mk ((by rw [hg];exact (below_size (by repeat (first|(with_reducible first|exact HB.out|apply below_alloc|apply pw_below_drewN|apply below_drew1|refine below_set ?_ GE133.out)|exact HB.out))):w.heap.size ≤ gb134));have n5_:=Aside0.mk ((by rw [hg];exact Nat.ne_of_lt (blk_lt (g:=gb133) (o:=.cells #[.slice A0_0 l0_0.length c0_0,.slice A0_1 l0_1.length c0_1] 25 (0,0)) (by (with_reducible repeat (first|refine blk_drewN ?_ _|refine blk_drew ?_|refine blk_alloc ?_ _));exact BK133.out)):gb133 ≠ gb134));have n6_:=Aside0.mk ((by rw [hg];exact Nat.ne_of_gt (blk_lt (g:=gb133) (o:=.cells #[.slice A0_0 l0_0.length c0_0,.slice A0_1 l0_1.length c0_1] 25 (0,0)) (by (with_reducible repeat (first|refine blk_drewN ?_ _|refine blk_drew ?_|refine blk_alloc ?_ _));exact BK133.out)):gb134 ≠ gb133));clear BK133;clear HB;have BK133:=n0_;have HB:=n1_;have BK134:=n2_;have GW134:=n3_;have GE134:=n4_;have NB133_134:=n5_;have NB134_133:=n6_;clear n0_ n1_ n2_ n3_ n4_ n5_ n6_;clear hb hbox hg;have hnb10:=NB133_134.out;have hnc10:=NB134_133.out;have hcz11_0:w9.cell? ⟨gb133,0,none⟩=some (.slice A0_0 l0_0.length c0_0):=(blk_cell BK133.out 0).trans rfl;have hcz11_1:w9.cell? ⟨gb133,1,none⟩=some (.slice A0_1 l0_1.length c0_1):=(blk_cell BK133.out 1).trans rfl;have hfz11_0:=blk_frozen BK133.out 0;have hfz11_1:=blk_frozen BK133.out 1)|((with_reducible refine gate_callee (f:=26) rfl ?_);refine goesL_ (some 11) rfl rfl Try.func26 (by kernel_rfl) rfl #[.agg #[.slice A0_0 l0_0.length c0_0,.slice A0_1 l0_1.length c0_1]] rfl (by (try simp only [List.map_toArray,List.map_cons,List.map_nil]);first|done|rfl|(simp only [List.length_drop,List.length_take];rfl)) ?_;(with_reducible refine (disk_Sync.calls _ _ l0_0 _ _ l0_1 t135 t138 _ ?side1 ?side2 ?side3 ?side4 A4.out).mono ?_);(case side1=>repeat (first|exact (Kd.C_below HR0_0.out HB.out)|(with_reducible refine Kd.C_alloc ?_ _)|(with_reducible refine Kd.C_drewN ?_ _)|(with_reducible refine Kd.C_drew ?_)));(case side2=>exact HC0_0.out);(case side3=>repeat (first|exact (Kd.C_below HR0_1.out HB.out)|(with_reducible refine Kd.C_alloc ?_ _)|(with_reducible refine Kd.C_drewN ?_ _)|(with_reducible refine Kd.C_drew ?_)));(case side4=>exact HC0_1.out);rintro e w12 ⟨v136,v139,rfl,ho0,ho1,hb⟩;refine ⟨_,rfl,?_⟩;have n0_:=Aside0.mk (Kd.R_lower ho0 (below_size (by repeat (first|(with_reducible first|exact HB.out|apply below_alloc|apply pw_below_drewN|apply below_drew1|refine below_set ?_ GE133.out|refine below_set ?_ GE134.out)|exact HB.out))));have n1_:=Aside0.mk (Kd.S_lower ho1 (below_size (by repeat (first|(with_reducible first|exact HB.out|apply below_alloc|apply pw_below_drewN|apply below_drew1|refine below_set ?_ GE133.out|refine below_set ?_ GE134.out)|exact HB.out))));have n2_:=Aside0.mk (blk_below (g:=gb133) (o:=.cells #[.slice A0_0 l0_0.length c0_0,.slice A0_1 l0_1.length c0_1] 25 (0,0)) (by (with_reducible repeat (first|refine blk_drewN ?_ _|refine blk_drew ?_|refine blk_alloc ?_ _));exact BK133.out) hb);have n3_:=Aside0.mk (blk_below (g:=gb134) (o:=.cells #[.slice none 0 0,.slice none 0 0] 25 (0,0)) (by (with_reducible repeat (first|refine blk_drewN ?_ _|refine blk_drew ?_|refine blk_alloc ?_ _));exact BK134.out) hb);have n4_:=Aside0.mk (below_step (by repeat (first|(with_reducible first|exact HB.out|apply below_alloc|apply pw_below_drewN|apply below_drew1|refine below_set ?_ GE133.out|refine below_set ?_ GE134.out)|exact HB.out)) hb);clear BK133;clear BK134;clear HB;have HO137:=n0_;have HO140:=n1_;have BK133:=n2_;have BK134:=n3_;have HB:=n4_;clear n0_ n1_ n2_ n3_ n4_;(try clear hb);(try clear hb2);(try clear hk);(try clear hi);(try clear ho0);(try clear ho1);obtain ⟨Ao13,co13,eo13⟩:=Kd.R_slice HO137.out;subst eo13;obtain ⟨Ao14,co14,eo14⟩:=Kd.S_slice HO140.out;subst eo14)|((with_reducible refine gate_callee (f:=21) rfl ?_);refine goesL_ (some 14) rfl rfl Try.func21 (by kernel_rfl) rfl #[.agg #[.slice Ao13 t135.length co13,.slice Ao14 t138.length co14],.int .i64 a1,.slice A2 l2.length c2] rfl (by (try simp only [List.map_toArray,List.map_cons,List.map_nil]);first|done|rfl|(simp only [List.length_drop,List.length_take];rfl)) ?_;(with_reducible refine (disk_Write.calls _ _ t135 _ _ t138 a1 _ _ l2 t141 t144 t147 _ ?side1 ?side2 ?side3 ?side4 ?side5 ?side6 A5.out).mono ?_);(case side1=>repeat (first|exact (Kd.R_reads' HO137.out).2.2|(with_reducible refine Kd.C_alloc ?_ _)|(with_reducible refine Kd.C_drewN ?_ _)|(with_reducible refine Kd.C_drew ?_)));(case side2=>exact (Kd.R_reads' HO137.out).2.1);(case side3=>repeat (first|exact (Kd.S_reads' HO140.out).2.2|(with_reducible refine Kd.C_alloc ?_ _)|(with_reducible refine Kd.C_drewN ?_ _)|(with_reducible refine Kd.C_drew ?_)));(case side4=>exact (Kd.S_reads' HO140.out).2.1);(case side5=>repeat (first|exact (Kd.C_below HR2.out HB.out)|(with_reducible refine Kd.C_alloc ?_ _)|(with_reducible refine Kd.C_drewN ?_ _)|(with_reducible refine Kd.C_drew ?_)));(case side6=>exact HC2.out);rintro e w15 ⟨v142,v145,rfl,ho0,ho1,hb⟩;refine ⟨_,rfl,?_⟩;have n0_:=Aside0.mk (Kd.R_elder' (by (with_reducible repeat (first|apply Kd.R_alloc|apply Kd.R_drewN|apply Kd.R_drew));exact HO137.out) (Kd.R_base ho0) hb);have n1_:=Aside0.mk (Kd.S_mono (Kd.S_told (Kd.S_told (Kd.S_old (by (with_reducible repeat (first|apply Kd.S_alloc|apply Kd.S_drewN|apply Kd.S_drew));exact HO140.out) hb) (Kd.R_base ho0)) (Kd.S_base ho1)) (fun _ h_=>h_.1));have n2_:=Aside0.mk (Kd.R_lower (Kd.R_new' ho0 (Kd.R_lt (by (with_reducible repeat (first|apply Kd.R_alloc|apply Kd.R_drewN|apply Kd.R_drew));exact HO137.out))) (below_size (by repeat (first|(with_reducible first|exact HB.out|apply below_alloc|apply pw_below_drewN|apply below_drew1|refine below_set ?_ GE133.out|refine below_set ?_ GE134.out)|exact HB.out))));have n3_:=Aside0.mk (Kd.S_lower (Kd.S_new' (Kd.S_new' ho1 (Kd.R_lt (by (with_reducible repeat (first|apply Kd.R_alloc|apply Kd.R_drewN|apply Kd.R_drew));exact HO137.out))) (Kd.S_lt (by (with_reducible repeat (first|apply Kd.S_alloc|apply Kd.S_drewN|apply Kd.S_drew));exact HO140.out))) (below_size (by repeat (first|(with_reducible first|exact HB.out|apply below_alloc|apply pw_below_drewN|apply below_drew1|refine below_set ?_ GE133.out|refine below_set ?_ GE134.out)|exact HB.out))));have n4_:=Aside0.mk (blk_below (g:=gb133) (o:=.cells #[.slice A0_0 l0_0.length c0_0,.slice A0_1 l0_1.length c0_1] 25 (0,0)) (by (with_reducible repeat (first|refine blk_drewN ?_ _|refine blk_drew ?_|refine blk_alloc ?_ _));exact BK133.out) hb);have n5_:=Aside0.mk (blk_below (g:=gb134) (o:=.cells #[.slice none 0 0,.slice none 0 0] 25 (0,0)) (by (with_reducible repeat (first|refine blk_drewN ?_ _|refine blk_drew ?_|refine blk_alloc ?_ _));exact BK134.out) hb);have n6_:=Aside0.mk (below_step (by repeat (first|(with_reducible first|exact HB.out|apply below_alloc|apply pw_below_drewN|apply below_drew1|refine below_set ?_ GE133.out|refine below_set ?_ GE134.out)|exact HB.out)) hb);clear HO137;clear HO140;clear BK133;clear BK134;clear HB;have HO137:=n0_;have HO140:=n1_;have HO143:=n2_;have HO146:=n3_;have BK133:=n4_;have BK134:=n5_;have HB:=n6_;clear n0_ n1_ n2_ n3_ n4_ n5_ n6_;(try clear hb);(try clear hb2);(try clear hk);(try clear hi);(try clear ho0);(try clear ho1);obtain ⟨Ao16,co16,eo16⟩:=Kd.R_slice HO143.out;subst eo16;have hcz17_0:w15.cell? ⟨gb133,0,none⟩=some (.slice A0_0 l0_0.length c0_0):=(blk_cell BK133.out 0).trans rfl;have hcz17_1:w15.cell? ⟨gb133,1,none⟩=some (.slice A0_1 l0_1.length c0_1):=(blk_cell BK133.out 1).trans rfl;have hfz17_0:=blk_frozen BK133.out 0;have hfz17_1:=blk_frozen BK133.out 1;obtain ⟨Ao18,co18,eo18⟩:=Kd.S_slice HO146.out;subst eo18)|((with_reducible refine gate_callee (f:=26) rfl ?_);refine goesL_ (some 22) rfl rfl Try.func26 (by kernel_rfl) rfl #[.agg #[.slice Ao16 t141.length co16,.slice Ao18 t144.length co18]] rfl (by (try simp only [List.map_toArray,List.map_cons,List.map_nil]);first|done|rfl|(simp only [List.length_drop,List.length_take];rfl)) ?_;(with_reducible refine (disk_Sync.calls _ _ t141 _ _ t144 t148 t151 _ ?side1 ?side2 ?side3 ?side4 A7.out).mono ?_);(case side1=>refine (Kd.R_reads' (e:=5) (base:=w.heap.size) (ok:=fun k_=>(True∧some k_ ≠ (.slice Ao13 t135.length co13:Value).ownBlock)) (n:=t141.length) (c:=co16) ?_).2.2;exact (by (with_reducible repeat (first|apply Kd.R_alloc|apply Kd.R_drewN|apply Kd.R_drew));exact (Kd.R_mono (Kd.R_far (p:=⟨gb133,1,none⟩) (Kd.R_far (p:=⟨gb133,0,none⟩) (Kd.R_types HO143.out BK133.out (by decide)) (fun _ hk=>hk.2) (.slice Ao16 t141.length co16)) (fun _ hk=>hk.2) (.slice Ao18 t144.length co18)) (fun _ h_=>h_.1))));(case side2=>exact (Kd.R_reads' HO143.out).2.1);(case side3=>refine (Kd.S_reads' (e:=45) (base:=w.heap.size) (ok:=fun k_=>((some k_ ≠ (.slice Ao16 t141.length co16:Value).ownBlock∧some k_ ≠ (.slice Ao13 t135.length co13:Value).ownBlock)∧some k_ ≠ (.slice Ao14 t138.length co14:Value).ownBlock)) (n:=t144.length) (c:=co18) ?_).2.2;exact (by (with_reducible repeat (first|apply Kd.S_alloc|apply Kd.S_drewN|apply Kd.S_drew));exact (Kd.S_mono (Kd.S_far (p:=⟨gb133,1,none⟩) (Kd.S_far (p:=⟨gb133,0,none⟩) (Kd.S_types HO146.out BK133.out (by decide)) (fun _ hk=>hk.2) (.slice Ao16 t141.length co16)) (fun _ hk=>hk.2) (.slice Ao18 t144.length co18)) (fun _ h_=>h_.1))));(case side4=>exact (Kd.S_reads' HO146.out).2.1);rintro e w19 ⟨v149,v152,rfl,ho0,ho1,hb⟩;refine ⟨_,rfl,?_⟩;have n0_:=Aside0.mk (Kd.R_elder' (by (with_reducible repeat (first|apply Kd.R_alloc|apply Kd.R_drewN|apply Kd.R_drew));exact (Kd.R_mono (Kd.R_far (p:=⟨gb133,1,none⟩) (Kd.R_far (p:=⟨gb133,0,none⟩) (Kd.R_types HO137.out BK133.out (by decide)) (fun _ hk=>hk.2) (.slice Ao16 t141.length co16)) (fun _ hk=>hk.2) (.slice Ao18 t144.length co18)) (fun _ h_=>h_.1))) (Kd.R_base ho0) hb);have n1_:=Aside0.mk (Kd.S_mono (Kd.S_told (Kd.S_told (Kd.S_old (by (with_reducible repeat (first|apply Kd.S_alloc|apply Kd.S_drewN|apply Kd.S_drew));exact (Kd.S_mono (Kd.S_far (p:=⟨gb133,1,none⟩) (Kd.S_far (p:=⟨gb133,0,none⟩) (Kd.S_types HO140.out BK133.out (by decide)) (fun _ hk=>hk.2) (.slice Ao16 t141.length co16)) (fun _ hk=>hk.2) (.slice Ao18 t144.length co18)) (fun _ h_=>h_.1))) hb) (Kd.R_base ho0)) (Kd.S_base ho1)) (fun _ h_=>h_.1));have n2_:=Aside0.mk (Kd.R_elder' (by (with_reducible repeat (first|apply Kd.R_alloc|apply Kd.R_drewN|apply Kd.R_drew));exact (Kd.R_mono (Kd.R_far (p:=⟨gb133,1,none⟩) (Kd.R_far (p:=⟨gb133,0,none⟩) (Kd.R_types HO143.out BK133.out (by decide)) (fun _ hk=>hk.2) (.slice Ao16 t141.length co16)) (fun _ hk=>hk.2) (.slice Ao18 t144.length co18)) (fun _ h_=>h_.1))) (Kd.R_base ho0) hb);have n3_:=Aside0.mk (Kd.S_mono (Kd.S_told (Kd.S_told (Kd.S_old (by (with_reducible repeat (first|apply Kd.S_alloc|apply Kd.S_drewN|apply Kd.S_drew));exact (Kd.S_mono (Kd.S_far (p:=⟨gb133,1,none⟩) (Kd.S_far (p:=⟨gb133,0,none⟩) (Kd.S_types HO146.out BK133.out (by decide)) (fun _ hk=>hk.2) (.slice Ao16 t141.length co16)) (fun _ hk=>hk.2) (.slice Ao18 t144.length co18)) (fun _ h_=>h_.1))) hb) (Kd.R_base ho0)) (Kd.S_base ho1)) (fun _ h_=>h_.1));have n4_:=Aside0.mk (Kd.R_lower (Kd.R_new' (Kd.R_new' ho0 (Kd.R_lt (by (with_reducible repeat (first|apply Kd.R_alloc|apply Kd.R_drewN|apply Kd.R_drew));exact (Kd.R_mono (Kd.R_far (p:=⟨gb133,1,none⟩) (Kd.R_far (p:=⟨gb133,0,none⟩) (Kd.R_types HO137.out BK133.out (by decide)) (fun _ hk=>hk.2) (.slice Ao16 t141.length co16)) (fun _ hk=>hk.2) (.slice Ao18 t144.length co18)) (fun _ h_=>h_.1))))) (Kd.R_lt (by (with_reducible repeat (first|apply Kd.R_alloc|apply Kd.R_drewN|apply Kd.R_drew));exact (Kd.R_mono (Kd.R_far (p:=⟨gb133,1,none⟩) (Kd.R_far (p:=⟨gb133,0,none⟩) (Kd.R_types HO143.out BK133.out (by decide)) (fun _ hk=>hk.2) (.slice Ao16 t141.length co16)) (fun _ hk=>hk.2) (.slice Ao18 t144.length co18)) (fun _ h_=>h_.1))))) (below_size (by repeat (first|(with_reducible first|exact HB.out|apply below_alloc|apply pw_below_drewN|apply below_drew1|refine below_set ?_ GE133.out|refine below_set ?_ GE134.out)|exact HB.out))));have n5_:=Aside0.mk (Kd.S_lower (Kd.S_new' (Kd.S_new' (Kd.S_new' (Kd.S_new' ho1 (Kd.R_lt (by (with_reducible repeat (first|apply Kd.R_alloc|apply Kd.R_drewN|apply Kd.R_drew));exact (Kd.R_mono (Kd.R_far (p:=⟨gb133,1,none⟩) (Kd.R_far (p:=⟨gb133,0,none⟩) (Kd.R_types HO137.out BK133.out (by decide)) (fun _ hk=>hk.2) (.slice Ao16 t141.length co16)) (fun _ hk=>hk.2) (.slice Ao18 t144.length co18)) (fun _ h_=>h_.1))))) (Kd.S_lt (by (with_reducible repeat (first|apply Kd.S_alloc|apply Kd.S_drewN|apply Kd.S_drew));exact (Kd.S_mono (Kd.S_far (p:=⟨gb133,1,none⟩) (Kd.S_far (p:=⟨gb133,0,none⟩) (Kd.S_types HO140.out BK133.out (by decide)) (fun _ hk=>hk.2) (.slice Ao16 t141.length co16)) (fun _ hk=>hk.2) (.slice Ao18 t144.length co18)) (fun _ h_=>h_.1))))) (Kd.R_lt (by (with_reducible repeat (first|apply Kd.R_alloc|apply Kd.R_drewN|apply Kd.R_drew));exact (Kd.R_mono (Kd.R_far (p:=⟨gb133,1,none⟩) (Kd.R_far (p:=⟨gb133,0,none⟩) (Kd.R_types HO143.out BK133.out (by decide)) (fun _ hk=>hk.2) (.slice Ao16 t141.length co16)) (fun _ hk=>hk.2) (.slice Ao18 t144.length co18)) (fun _ h_=>h_.1))))) (Kd.S_lt (by (with_reducible repeat (first|apply Kd.S_alloc|apply Kd.S_drewN|apply Kd.S_drew));exact (Kd.S_mono (Kd.S_far (p:=⟨gb133,1,none⟩) (Kd.S_far (p:=⟨gb133,0,none⟩) (Kd.S_types HO146.out BK133.out (by decide)) (fun _ hk=>hk.2) (.slice Ao16 t141.length co16)) (fun _ hk=>hk.2) (.slice Ao18 t144.length co18)) (fun _ h_=>h_.1))))) (below_size (by repeat (first|(with_reducible first|exact HB.out|apply below_alloc|apply pw_below_drewN|apply below_drew1|refine below_set ?_ GE133.out|refine below_set ?_ GE134.out)|exact HB.out))));have n6_:=Aside0.mk (blk_below (g:=gb133) (o:=.cells #[.slice Ao16 t141.length co16,.slice Ao18 t144.length co18] 25 (0,0)) (by (with_reducible repeat (first|refine blk_drewN ?_ _|refine blk_drew ?_|refine blk_alloc ?_ _));refine blk_put (cs:=#[.slice Ao16 t141.length co16,.slice A0_1 l0_1.length c0_1]) ?_ 1 _ rfl;(with_reducible repeat (first|refine blk_drewN ?_ _|refine blk_drew ?_|refine blk_alloc ?_ _));refine blk_put (cs:=#[.slice A0_0 l0_0.length c0_0,.slice A0_1 l0_1.length c0_1]) ?_ 0 _ rfl;(with_reducible repeat (first|refine blk_drewN ?_ _|refine blk_drew ?_|refine blk_alloc ?_ _));exact BK133.out) hb);have n7_:=Aside0.mk (blk_below (g:=gb134) (o:=.cells #[.slice none 0 0,.slice none 0 0] 25 (0,0)) (by (with_reducible repeat (first|refine blk_drewN ?_ _|refine blk_drew ?_|refine blk_alloc ?_ _));refine blk_far ?_ NB134_133.out _;(with_reducible repeat (first|refine blk_drewN ?_ _|refine blk_drew ?_|refine blk_alloc ?_ _));refine blk_far ?_ NB134_133.out _;(with_reducible repeat (first|refine blk_drewN ?_ _|refine blk_drew ?_|refine blk_alloc ?_ _));exact BK134.out) hb);have n8_:=Aside0.mk (below_step (by repeat (first|(with_reducible first|exact HB.out|apply below_alloc|apply pw_below_drewN|apply below_drew1|refine below_set ?_ GE133.out|refine below_set ?_ GE134.out)|exact HB.out)) hb);clear HO137;clear HO140;clear HO143;clear HO146;clear BK133;clear BK134;clear HB;have HO137:=n0_;have HO140:=n1_;have HO143:=n2_;have HO146:=n3_;have HO150:=n4_;have HO153:=n5_;have BK133:=n6_;have BK134:=n7_;have HB:=n8_;clear n0_ n1_ n2_ n3_ n4_ n5_ n6_ n7_ n8_;(try clear hb);(try clear hb2);(try clear hk);(try clear hi);(try clear ho0);(try clear ho1);obtain ⟨Ao20,co20,eo20⟩:=Kd.R_slice HO150.out;subst eo20;have hcz21_0:w19.cell? ⟨gb134,0,none⟩=some (.slice none 0 0):=(blk_cell BK134.out 0).trans rfl;have hcz21_1:w19.cell? ⟨gb134,1,none⟩=some (.slice none 0 0):=(blk_cell BK134.out 1).trans rfl;have hfz21_0:=blk_frozen BK134.out 0;have hfz21_1:=blk_frozen BK134.out 1;obtain ⟨Ao22,co22,eo22⟩:=Kd.S_slice HO153.out;subst eo22))
   refine bodyPost_ret (results_ct rfl _ _ gb134 25 #[.slice Ao20 t148.length co20,.slice Ao22 t151.length co22] (0,0) _ rfl (by (with_reducible repeat (first|refine blk_drewN ?_ _|refine blk_drew ?_|refine blk_alloc ?_ _));refine blk_put (cs:=#[.slice Ao20 t148.length co20,.slice none 0 0]) ?_ 1 _ rfl;(with_reducible repeat (first|refine blk_drewN ?_ _|refine blk_drew ?_|refine blk_alloc ?_ _));refine blk_put (cs:=#[.slice none 0 0,.slice none 0 0]) ?_ 0 _ rfl;(with_reducible repeat (first|refine blk_drewN ?_ _|refine blk_drew ?_|refine blk_alloc ?_ _));exact BK134.out) Try.underlying25 rfl (by kernel_rfl)) rfl ?_
   exact ⟨_,_,by first|rfl|(simp [errW_none,errW_some] <;> rfl)|(simp [*,errW_none,errW_some] <;> rfl),by (with_reducible repeat (first|apply Kd.R_alloc|apply Kd.R_drewN|apply Kd.R_drew));exact Kd.R_mono (Kd.R_far (p:=⟨gb134,1,none⟩) (Kd.R_far (p:=⟨gb134,0,none⟩) (Kd.R_types HO150.out BK134.out (by decide)) (fun _ hk=>hk.2) (.slice Ao20 t148.length co20)) (fun _ hk=>hk.2) (.slice Ao22 t151.length co22)) (fun _ hk=>trivial),by (with_reducible repeat (first|apply Kd.S_alloc|apply Kd.S_drewN|apply Kd.S_drew));exact Kd.S_mono (Kd.S_far (p:=⟨gb134,1,none⟩) (Kd.S_far (p:=⟨gb134,0,none⟩) (Kd.S_types HO153.out BK134.out (by decide)) (fun _ hk=>hk.2) (.slice Ao20 t148.length co20)) (fun _ hk=>hk.2) (.slice Ao22 t151.length co22)) (fun _ hk=>hk.1.1.1.1.1),by repeat (first|(with_reducible first|exact HB.out|apply below_alloc|apply pw_below_drewN|apply below_drew1|refine below_set ?_ GE133.out|refine below_set ?_ GE134.out)|exact HB.out)⟩
 · rw [if_neg c6] at H
   have c6b0:(t147 == 0)=false:=beq_eq_false_iff_ne.mpr c6
   have c6b1:(t147 != 0)=true:=bne_iff_ne.mpr c6
   simp only [Option.some.injEq,Prod.mk.injEq] at H
   obtain ⟨rfl,rfl,rfl⟩:=H
   go_enter Try.func52,Try.ntmps52
   go_wp2_with (first|((with_reducible refine gate_dst (N:=3) rfl ?_);refine box_event ?hg (N:=3) ?hd (cs:=#[.slice A0_0 l0_0.length c0_0,.slice A0_1 l0_1.length c0_1]) (t:=25) ?hr ?_;(case hd=>rfl);(case hg=>rfl);(case hr=>first|(go_simp;done)|(go_simp;rfl));intro gb133 hg w23 hbox hb;have n0_:=Aside0.mk (below_step (by repeat (first|(with_reducible first|exact HB.out|apply below_alloc|apply pw_below_drewN|apply below_drew1)|exact HB.out)) hb);have n1_:=Aside0.mk (hbox);have n2_:=Aside0.mk ((by rw [hg];exact (below_size (by repeat (first|(with_reducible first|exact HB.out|apply below_alloc|apply pw_below_drewN|apply below_drew1)|exact HB.out))):w.heap.size ≤ gb133));have n3_:=Aside0.mk ((by rw [hg];exact (below_size (by repeat (first|(with_reducible first|exact HB.out|apply below_alloc|apply pw_below_drewN|apply below_drew1)|exact HB.out))):w.heap.size ≤ gb133));clear HB;have HB:=n0_;have BK133:=n1_;have GW133:=n2_;have GE133:=n3_;clear n0_ n1_ n2_ n3_;clear hb hbox hg)|((with_reducible refine gate_dst (N:=6) rfl ?_);refine box_event ?hg (N:=6) ?hd (cs:=#[.slice none 0 0,.slice none 0 0]) (t:=25) ?hr ?_;(case hd=>rfl);(case hg=>rfl);(case hr=>first|(go_simp;done)|(go_simp;rfl));intro gb134 hg w24 hbox hb;have n0_:=Aside0.mk (blk_below (g:=gb133) (o:=.cells #[.slice A0_0 l0_0.length c0_0,.slice A0_1 l0_1.length c0_1] 25 (0,0)) (by (with_reducible repeat (first|refine blk_drewN ?_ _|refine blk_drew ?_|refine blk_alloc ?_ _));exact BK133.out) hb);have n1_:=Aside0.mk (below_step (by repeat (first|(with_reducible first|exact HB.out|apply below_alloc|apply pw_below_drewN|apply below_drew1|refine below_set ?_ GE133.out)|exact HB.out)) hb);have n2_:=Aside0.mk (hbox);have n3_:=Aside0.mk ((by rw [hg];exact (below_size (by repeat (first|(with_reducible first|exact HB.out|apply below_alloc|apply pw_below_drewN|apply below_drew1|refine below_set ?_ GE133.out)|exact HB.out))):w.heap.size ≤ gb134));have n4_:=Aside0.mk ((by rw [hg];exact (below_size (by repeat (first|(with_reducible first|exact HB.out|apply below_alloc|apply pw_below_drewN|apply below_drew1|refine below_set ?_ GE133.out)|exact HB.out))):w.heap.size ≤ gb134));have n5_:=Aside0.mk ((by rw [hg];exact Nat.ne_of_lt (blk_lt (g:=gb133) (o:=.cells #[.slice A0_0 l0_0.length c0_0,.slice A0_1 l0_1.length c0_1] 25 (0,0)) (by (with_reducible repeat (first|refine blk_drewN ?_ _|refine blk_drew ?_|refine blk_alloc ?_ _));exact BK133.out)):gb133 ≠ gb134));have n6_:=Aside0.mk ((by rw [hg];exact Nat.ne_of_gt (blk_lt (g:=gb133) (o:=.cells #[.slice A0_0 l0_0.length c0_0,.slice A0_1 l0_1.length c0_1] 25 (0,0)) (by (with_reducible repeat (first|refine blk_drewN ?_ _|refine blk_drew ?_|refine blk_alloc ?_ _));exact BK133.out)):gb134 ≠ gb133));clear BK133;clear HB;have BK133:=n0_;have HB:=n1_;have BK134:=n2_;have GW134:=n3_;have GE134:=n4_;have NB133_134:=n5_;have NB134_133:=n6_;clear n0_ n1_ n2_ n3_ n4_ n5_ n6_;clear hb hbox hg;have hnb25:=NB133_134.out;have hnc25:=NB134_133.out;have hcz26_0:w24.cell? ⟨gb133,0,none⟩=some (.slice A0_0 l0_0.length c0_0):=(blk_cell BK133.out 0).trans rfl;have hcz26_1:w24.cell? ⟨gb133,1,none⟩=some (.slice A0_1 l0_1.length c0_1):=(blk_cell BK133.out 1).trans rfl;have hfz26_0:=blk_frozen BK133.out 0;have hfz26_1:=blk_frozen BK133.out 1)|((with_reducible refine gate_callee (f:=26) rfl ?_);refine goesL_ (some 11) rfl rfl Try.func26 (by kernel_rfl) rfl #[.agg #[.slice A0_0 l0_0.length c0_0,.slice A0_1 l0_1.length c0_1]] rfl (by (try simp only [List.map_toArray,List.map_cons,List.map_nil]);first|done|rfl|(simp only [List.length_drop,List.length_take];rfl)) ?_;(with_reducible refine (disk_Sync.calls _ _ l0_0 _ _ l0_1 t135 t138 _ ?side1 ?side2 ?side3 ?side4 A4.out).mono ?_);(case side1=>repeat (first|exact (Kd.C_below HR0_0.out HB.out)|(with_reducible refine Kd.C_alloc ?_ _)|(with_reducible refine Kd.C_drewN ?_ _)|(with_reducible refine Kd.C_drew ?_)));(case side2=>exact HC0_0.out);(case side3=>repeat (first|exact (Kd.C_below HR0_1.out HB.out)|(with_reducible refine Kd.C_alloc ?_ _)|(with_reducible refine Kd.C_drewN ?_ _)|(with_reducible refine Kd.C_drew ?_)));(case side4=>exact HC0_1.out);rintro e w27 ⟨v136,v139,rfl,ho0,ho1,hb⟩;refine ⟨_,rfl,?_⟩;have n0_:=Aside0.mk (Kd.R_lower ho0 (below_size (by repeat (first|(with_reducible first|exact HB.out|apply below_alloc|apply pw_below_drewN|apply below_drew1|refine below_set ?_ GE133.out|refine below_set ?_ GE134.out)|exact HB.out))));have n1_:=Aside0.mk (Kd.S_lower ho1 (below_size (by repeat (first|(with_reducible first|exact HB.out|apply below_alloc|apply pw_below_drewN|apply below_drew1|refine below_set ?_ GE133.out|refine below_set ?_ GE134.out)|exact HB.out))));have n2_:=Aside0.mk (blk_below (g:=gb133) (o:=.cells #[.slice A0_0 l0_0.length c0_0,.slice A0_1 l0_1.length c0_1] 25 (0,0)) (by (with_reducible repeat (first|refine blk_drewN ?_ _|refine blk_drew ?_|refine blk_alloc ?_ _));exact BK133.out) hb);have n3_:=Aside0.mk (blk_below (g:=gb134) (o:=.cells #[.slice none 0 0,.slice none 0 0] 25 (0,0)) (by (with_reducible repeat (first|refine blk_drewN ?_ _|refine blk_drew ?_|refine blk_alloc ?_ _));exact BK134.out) hb);have n4_:=Aside0.mk (below_step (by repeat (first|(with_reducible first|exact HB.out|apply below_alloc|apply pw_below_drewN|apply below_drew1|refine below_set ?_ GE133.out|refine below_set ?_ GE134.out)|exact HB.out)) hb);clear BK133;clear BK134;clear HB;have HO137:=n0_;have HO140:=n1_;have BK133:=n2_;have BK134:=n3_;have HB:=n4_;clear n0_ n1_ n2_ n3_ n4_;(try clear hb);(try clear hb2);(try clear hk);(try clear hi);(try clear ho0);(try clear ho1);obtain ⟨Ao28,co28,eo28⟩:=Kd.R_slice HO137.out;subst eo28;obtain ⟨Ao29,co29,eo29⟩:=Kd.S_slice HO140.out;subst eo29)|((with_reducible refine gate_callee (f:=21) rfl ?_);refine goesL_ (some 14) rfl rfl Try.func21 (by kernel_rfl) rfl #[.agg #[.slice Ao28 t135.length co28,.slice Ao29 t138.length co29],.int .i64 a1,.slice A2 l2.length c2] rfl (by (try simp only [List.map_toArray,List.map_cons,List.map_nil]);first|done|rfl|(simp only [List.length_drop,List.length_take];rfl)) ?_;(with_reducible refine (disk_Write.calls _ _ t135 _ _ t138 a1 _ _ l2 t141 t144 t147 _ ?side1 ?side2 ?side3 ?side4 ?side5 ?side6 A5.out).mono ?_);(case side1=>repeat (first|exact (Kd.R_reads' HO137.out).2.2|(with_reducible refine Kd.C_alloc ?_ _)|(with_reducible refine Kd.C_drewN ?_ _)|(with_reducible refine Kd.C_drew ?_)));(case side2=>exact (Kd.R_reads' HO137.out).2.1);(case side3=>repeat (first|exact (Kd.S_reads' HO140.out).2.2|(with_reducible refine Kd.C_alloc ?_ _)|(with_reducible refine Kd.C_drewN ?_ _)|(with_reducible refine Kd.C_drew ?_)));(case side4=>exact (Kd.S_reads' HO140.out).2.1);(case side5=>repeat (first|exact (Kd.C_below HR2.out HB.out)|(with_reducible refine Kd.C_alloc ?_ _)|(with_reducible refine Kd.C_drewN ?_ _)|(with_reducible refine Kd.C_drew ?_)));(case side6=>exact HC2.out);rintro e w30 ⟨v142,v145,rfl,ho0,ho1,hb⟩;refine ⟨_,rfl,?_⟩;have n0_:=Aside0.mk (Kd.R_elder' (by (with_reducible repeat (first|apply Kd.R_alloc|apply Kd.R_drewN|apply Kd.R_drew));exact HO137.out) (Kd.R_base ho0) hb);have n1_:=Aside0.mk (Kd.S_mono (Kd.S_told (Kd.S_told (Kd.S_old (by (with_reducible repeat (first|apply Kd.S_alloc|apply Kd.S_drewN|apply Kd.S_drew));exact HO140.out) hb) (Kd.R_base ho0)) (Kd.S_base ho1)) (fun _ h_=>h_.1));have n2_:=Aside0.mk (Kd.R_lower (Kd.R_new' ho0 (Kd.R_lt (by (with_reducible repeat (first|apply Kd.R_alloc|apply Kd.R_drewN|apply Kd.R_drew));exact HO137.out))) (below_size (by repeat (first|(with_reducible first|exact HB.out|apply below_alloc|apply pw_below_drewN|apply below_drew1|refine below_set ?_ GE133.out|refine below_set ?_ GE134.out)|exact HB.out))));have n3_:=Aside0.mk (Kd.S_lower (Kd.S_new' (Kd.S_new' ho1 (Kd.R_lt (by (with_reducible repeat (first|apply Kd.R_alloc|apply Kd.R_drewN|apply Kd.R_drew));exact HO137.out))) (Kd.S_lt (by (with_reducible repeat (first|apply Kd.S_alloc|apply Kd.S_drewN|apply Kd.S_drew));exact HO140.out))) (below_size (by repeat (first|(with_reducible first|exact HB.out|apply below_alloc|apply pw_below_drewN|apply below_drew1|refine below_set ?_ GE133.out|refine below_set ?_ GE134.out)|exact HB.out))));have n4_:=Aside0.mk (blk_below (g:=gb133) (o:=.cells #[.slice A0_0 l0_0.length c0_0,.slice A0_1 l0_1.length c0_1] 25 (0,0)) (by (with_reducible repeat (first|refine blk_drewN ?_ _|refine blk_drew ?_|refine blk_alloc ?_ _));exact BK133.out) hb);have n5_:=Aside0.mk (blk_below (g:=gb134) (o:=.cells #[.slice none 0 0,.slice none 0 0] 25 (0,0)) (by (with_reducible repeat (first|refine blk_drewN ?_ _|refine blk_drew ?_|refine blk_alloc ?_ _));exact BK134.out) hb);have n6_:=Aside0.mk (below_step (by repeat (first|(with_reducible first|exact HB.out|apply below_alloc|apply pw_below_drewN|apply below_drew1|refine below_set ?_ GE133.out|refine below_set ?_ GE134.out)|exact HB.out)) hb);clear HO137;clear HO140;clear BK133;clear BK134;clear HB;have HO137:=n0_;have HO140:=n1_;have HO143:=n2_;have HO146:=n3_;have BK133:=n4_;have BK134:=n5_;have HB:=n6_;clear n0_ n1_ n2_ n3_ n4_ n5_ n6_;(try clear hb);(try clear hb2);(try clear hk);(try clear hi);(try clear ho0);(try clear ho1);obtain ⟨Ao31,co31,eo31⟩:=Kd.R_slice HO143.out;subst eo31;have hcz32_0:w30.cell? ⟨gb133,0,none⟩=some (.slice A0_0 l0_0.length c0_0):=(blk_cell BK133.out 0).trans rfl;have hcz32_1:w30.cell? ⟨gb133,1,none⟩=some (.slice A0_1 l0_1.length c0_1):=(blk_cell BK133.out 1).trans rfl;have hfz32_0:=blk_frozen BK133.out 0;have hfz32_1:=blk_frozen BK133.out 1;obtain ⟨Ao33,co33,eo33⟩:=Kd.S_slice HO146.out;subst eo33;have hcz34_0:w30.cell? ⟨gb134,0,none⟩=some (.slice none 0 0):=(blk_cell BK134.out 0).trans rfl;have hcz34_1:w30.cell? ⟨gb134,1,none⟩=some (.slice none 0 0):=(blk_cell BK134.out 1).trans rfl;have hfz34_0:=blk_frozen BK134.out 0;have hfz34_1:=blk_frozen BK134.out 1))
   refine bodyPost_ret (results_ct rfl _ _ gb134 25 #[.slice none 0 0,.slice none 0 0] (0,0) _ rfl (by (with_reducible repeat (first|refine blk_drewN ?_ _|refine blk_drew ?_|refine blk_alloc ?_ _));refine blk_put (cs:=#[.slice none 0 0,.slice none 0 0]) ?_ 1 _ rfl;(with_reducible repeat (first|refine blk_drewN ?_ _|refine blk_drew ?_|refine blk_alloc ?_ _));refine blk_put (cs:=#[.slice none 0 0,.slice none 0 0]) ?_ 0 _ rfl;(with_reducible repeat (first|refine blk_drewN ?_ _|refine blk_drew ?_|refine blk_alloc ?_ _));refine blk_far ?_ NB134_133.out _;(with_reducible repeat (first|refine blk_drewN ?_ _|refine blk_drew ?_|refine blk_alloc ?_ _));refine blk_far ?_ NB134_133.out _;(with_reducible repeat (first|refine blk_drewN ?_ _|refine blk_drew ?_|refine blk_alloc ?_ _));exact BK134.out) Try.underlying25 rfl (by kernel_rfl)) rfl ?_
   exact ⟨_,_,by first|rfl|(simp [errW_none,errW_some] <;> rfl)|(simp [*,errW_none,errW_some] <;> rfl),by first|exact Kd.R_nil _ _ _ _ _|exact Kd.N_nil _ _ _ _ _|exact Kd.V_nil _ _ _ _ _|exact Kd.Q_nil _ _ _ _ _|exact Kd.S_nil _ _ _ _ _,by first|exact Kd.S_nil _ _ _ _ _|exact Kd.N_nil _ _ _ _ _|exact Kd.V_nil _ _ _ _ _|exact Kd.Q_nil _ _ _ _ _|exact Kd.R_nil _ _ _ _ _,by repeat (first|(with_reducible first|exact HB.out|apply below_alloc|apply pw_below_drewN|apply below_drew1|refine below_set ?_ GE133.out|refine below_set ?_ GE134.out)|exact HB.out)⟩
def wageofficelaw43_small.l0:Nat→Int→List (S45)→Int→Int→List Int→List (S45)→Option (Bool)
 | 0,_,_,_,_,_,_=>none
 | k + 1,x3,x10,x11,x12,x172000,x172001=>if x12 < x11 then (if 0 ≤ x12 then (if x12 < (x10.length:Int) then (wageofficelaw43_small.l0 k (wrap64 (x3 + (((rd_T45 x10 x12).f1).length:Int))) x10 x11 (wrap64 (x12 + 1)) x172000 x172001) else (none)) else (none)) else (if x3 ≤ 8000 then (some (decide ((x172001.length:Int) ≤ 65))) else (some false))
def wageofficelaw43_small.f (k:Nat) (l0_0:List Int) (l0_1:List (S45)):Option (Bool):=wageofficelaw43_small.l0 k (l0_0.length:Int) l0_1 (l0_1.length:Int) 0 l0_0 l0_1
set_option maxHeartbeats 8000000 in
set_option maxRecDepth 100000 in
theorem wageofficelaw43_small.calls (k:Nat) (A0_0:Option Addr) (c0_0:Nat) (l0_0:List Int) (A0_1:Option Addr) (c0_1:Nat) (l0_1:List (S45)) (r:Bool) (w:World) (hr0_0:Kd.C (Kd.int .u8) w A0_0 l0_0.length l0_0) (hc0_0:l0_0.length ≤ c0_0) (hr0_1:Kd.C k45 w A0_1 l0_1.length l0_1) (hc0_1:l0_1.length ≤ c0_1) (h:wageofficelaw43_small.f k l0_0 l0_1=some r) :
 Calls Try.prog 33 #[.agg #[.slice A0_0 l0_0.length c0_0,.slice A0_1 l0_1.length c0_1]] w fun e w'=>e=.returned (.bool r)∧Below w.heap.size w w':=by
 have hu25:=Try.underlying25
 have hu45:=Try.underlying45
 have HR0_0:=Aside0.mk hr0_0
 have HC0_0:=Aside0.mk hc0_0
 clear hr0_0 hc0_0
 have HR0_1:=Aside0.mk hr0_1
 have HC0_1:=Aside0.mk hc0_1
 clear hr0_1 hc0_1
 have HB:=Aside0.mk (Below.refl w.heap.size w)
 have H:(wageofficelaw43_small.l0 k (l0_0.length:Int) l0_1 (l0_1.length:Int) 0 l0_0 l0_1)=some r:=h
 clear h
 have H':=Aside0.mk H
 clear H
 go_enter Try.func33,Try.ntmps33
 go_wp2_with (first|((with_reducible refine gate_dst (N:=1) rfl ?_);(try (refine gate_guard (by rfl) ?_;dsimp only));refine box_event ?hg (N:=1) ?hd (cs:=#[.slice A0_0 l0_0.length c0_0,.slice A0_1 l0_1.length c0_1]) (t:=25) ?hr ?_;(case hd=>rfl);(case hg=>rfl);(case hr=>first|(go_simp;done)|(go_simp;rfl));intro gb171 hg w2 hbox hb;have n0_:=Aside0.mk (below_step (by repeat (first|(with_reducible first|exact HB.out|apply below_alloc|apply pw_below_drewN|apply below_drew1)|exact HB.out)) hb);have n1_:=Aside0.mk (hbox);have n2_:=Aside0.mk ((by rw [hg];exact (below_size (by repeat (first|(with_reducible first|exact HB.out|apply below_alloc|apply pw_below_drewN|apply below_drew1)|exact HB.out))):w.heap.size ≤ gb171));have n3_:=Aside0.mk ((by rw [hg];exact (below_size (by repeat (first|(with_reducible first|exact HB.out|apply below_alloc|apply pw_below_drewN|apply below_drew1)|exact HB.out))):w.heap.size ≤ gb171));clear HB;have HB:=n0_;have BK171:=n1_;have GW171:=n2_;have GE171:=n3_;clear n0_ n1_ n2_ n3_;clear hb hbox hg;have hcz3_0:w2.cell? ⟨gb171,0,none⟩=some (.slice A0_0 l0_0.length c0_0):=(blk_cell BK171.out 0).trans rfl;have hcz3_1:w2.cell? ⟨gb171,1,none⟩=some (.slice A0_1 l0_1.length c0_1):=(blk_cell BK171.out 1).trans rfl;have hfz3_0:=blk_frozen BK171.out 0;have hfz3_1:=blk_frozen BK171.out 1))
 go_loopg [3,12] k (fun kq v3 v12 w'=>∃ (x3_1:Int) (x12_1:Int),v3=.int .i64 x3_1∧v12=.int .i64 x12_1∧Aside0 (wageofficelaw43_small.l0 kq x3_1 l0_1 (l0_1.length:Int) x12_1 l0_0 l0_1=some r)∧Aside0 (kq ≤ k)∧Aside0 (w'.heap[gb171]? = some (.cells #[(.slice A0_0 l0_0.length c0_0),(.slice A0_1 l0_1.length c0_1)] 25 (0,0)))∧Aside0 (Below w.heap.size w w'))
 case atStart=>exact ⟨((l0_0.length:Int)),(0),(by first|rfl|(simp;done)|(simp [*];done)),(by first|rfl|(simp;done)|(simp [*];done)),H',⟨Nat.le_refl _⟩,⟨by (with_reducible repeat (first|refine blk_drewN ?_ _|refine blk_drew ?_|refine blk_alloc ?_ _));exact BK171.out⟩,⟨by repeat (first|(with_reducible first|exact HB.out|apply below_alloc|apply pw_below_drewN|apply below_drew1|refine below_set ?_ GE171.out)|exact HB.out)⟩⟩
 case round =>
  clear H'
  try clear p2
  try clear c3
  try clear hcz3_0
  try clear hcz3_1
  try clear hfz3_0
  try clear hfz3_1
  obtain ⟨x3_1,x12_1,rfl,rfl,HA,HK1,BK171,HB⟩:=hrel
  cases gk with
  | zero=>exact absurd HA.out (by simp [wageofficelaw43_small.l0])
  | succ k1 =>
   have H:=HA.out
   clear HA
   simp only [wageofficelaw43_small.l0] at H
   by_cases c4:x12_1 < (l0_1.length:Int)
   · rw [if_pos c4] at H
     have c4b0:decide (x12_1 < (l0_1.length:Int))=true:=decide_eq_true c4
     clear c4
     by_cases c5:0 ≤ x12_1
     · rw [if_pos c5] at H
       have c5b0:decide (0 ≤ x12_1)=true:=decide_eq_true c5
       clear c5
       by_cases c6:x12_1 < (l0_1.length:Int)
       · rw [if_pos c6] at H
         have c6b0:decide (x12_1 < (l0_1.length:Int))=true:=decide_eq_true c6
         clear c6
         have H':=Aside0.mk H
         clear H
         have p172:0 ≤ (x12_1:Int):=of_decide_eq_true (by first|(with_reducible assumption)|assumption)
         have q172:x12_1 < (l0_1.length:Int):=of_decide_eq_true (by first|(with_reducible assumption)|assumption)
         obtain ⟨ad172,A172_1,c172_1,e172,hx172_0,hx172_1,hl172_1,hi172_1⟩:=at_T45 HR0_1.out x12_1 p172 q172
         cases e172
         replace hx172_0:=(HB.out.cell (World.block_lt_of_cell? w _ hx172_0)).trans hx172_0
         replace hx172_1:=(HB.out.cell (World.block_lt_of_cell? w _ hx172_1)).trans hx172_1
         have HR172_1:=Aside0.mk hi172_1
         have HC172_1:=Aside0.mk hl172_1
         clear hi172_1 hl172_1
         replace p172:=eq_true p172
         replace q172:=eq_true q172
         go_wp2_with (first|((with_reducible refine gate_dst (N:=5) rfl ?_);(try (refine gate_guard (by rfl) ?_;dsimp only));refine box_event ?hg (N:=5) ?hd (cs:=#[.int .i64 0,.slice none 0 0]) (t:=45) ?hr ?_;(case hd=>rfl);(case hg=>rfl);(case hr=>first|(go_simp;done)|(go_simp;rfl));intro gb173 hg w7 hbox hb;have n0_:=Aside0.mk (blk_below (g:=gb171) (o:=.cells #[.slice A0_0 l0_0.length c0_0,.slice (some ad172) l0_1.length c0_1] 25 (0,0)) (by (with_reducible repeat (first|refine blk_drewN ?_ _|refine blk_drew ?_|refine blk_alloc ?_ _));exact BK171.out) hb);have n1_:=Aside0.mk (below_step (by repeat (first|(with_reducible first|exact HB.out|apply below_alloc|apply pw_below_drewN|apply below_drew1|refine below_set ?_ GE171.out)|exact HB.out)) hb);have n2_:=Aside0.mk (hbox);have n3_:=Aside0.mk ((by rw [hg];exact (below_size (by repeat (first|(with_reducible first|exact HB.out|apply below_alloc|apply pw_below_drewN|apply below_drew1|refine below_set ?_ GE171.out)|exact HB.out))):w.heap.size ≤ gb173));have n4_:=Aside0.mk ((by rw [hg];exact (below_size (by repeat (first|(with_reducible first|exact HB.out|apply below_alloc|apply pw_below_drewN|apply below_drew1|refine below_set ?_ GE171.out)|exact HB.out))):w.heap.size ≤ gb173));have n5_:=Aside0.mk ((by rw [hg];exact Nat.ne_of_lt (blk_lt (g:=gb171) (o:=.cells #[.slice A0_0 l0_0.length c0_0,.slice (some ad172) l0_1.length c0_1] 25 (0,0)) (by (with_reducible repeat (first|refine blk_drewN ?_ _|refine blk_drew ?_|refine blk_alloc ?_ _));exact BK171.out)):gb171 ≠ gb173));have n6_:=Aside0.mk ((by rw [hg];exact Nat.ne_of_gt (blk_lt (g:=gb171) (o:=.cells #[.slice A0_0 l0_0.length c0_0,.slice (some ad172) l0_1.length c0_1] 25 (0,0)) (by (with_reducible repeat (first|refine blk_drewN ?_ _|refine blk_drew ?_|refine blk_alloc ?_ _));exact BK171.out)):gb173 ≠ gb171));clear BK171;clear HB;have BK171:=n0_;have HB:=n1_;have BK173:=n2_;have GW173:=n3_;have GE173:=n4_;have NB171_173:=n5_;have NB173_171:=n6_;clear n0_ n1_ n2_ n3_ n4_ n5_ n6_;clear hb hbox hg;have hnb8:=NB173_171.out;have hnc8:=NB171_173.out;have hcz9_0:w7.cell? ⟨gb173,0,none⟩=some (.int .i64 0):=(blk_cell BK173.out 0).trans rfl;have hcz9_1:w7.cell? ⟨gb173,1,none⟩=some (.slice none 0 0):=(blk_cell BK173.out 1).trans rfl;have hfz9_0:=blk_frozen BK173.out 0;have hfz9_1:=blk_frozen BK173.out 1))
         go_roundg k1
         case measure=>have:=HK1.out;omega
         case rel=>exact ⟨(wrap64 (x3_1 + (((rd_T45 l0_1 x12_1).f1).length:Int))),(wrap64 (x12_1 + 1)),(by first|rfl|(simp;done)|(simp [*];done)),(by first|rfl|(simp;done)|(simp [*];done)),H',⟨by have:=HK1.out;omega⟩,⟨by (with_reducible repeat (first|refine blk_drewN ?_ _|refine blk_drew ?_|refine blk_alloc ?_ _));refine blk_far ?_ NB171_173.out _;(with_reducible repeat (first|refine blk_drewN ?_ _|refine blk_drew ?_|refine blk_alloc ?_ _));refine blk_far ?_ NB171_173.out _;(with_reducible repeat (first|refine blk_drewN ?_ _|refine blk_drew ?_|refine blk_alloc ?_ _));exact BK171.out⟩,⟨by repeat (first|(with_reducible first|exact HB.out|apply below_alloc|apply pw_below_drewN|apply below_drew1|refine below_set ?_ GE171.out|refine below_set ?_ GE173.out)|exact HB.out)⟩⟩
       · rw [if_neg c6] at H
         exact absurd H (by simp)
     · rw [if_neg c5] at H
       exact absurd H (by simp)
   · rw [if_neg c4] at H
     have c4b0:decide (x12_1 < (l0_1.length:Int))=false:=decide_eq_false c4
     clear c4
     by_cases c10:x3_1 ≤ 8000
     · rw [if_pos c10] at H
       have c10b0:decide (x3_1 ≤ 8000)=true:=decide_eq_true c10
       clear c10
       obtain rfl:=Option.some.inj H
       have hcz11_0:wr.cell? ⟨gb171,0,none⟩=some (.slice A0_0 l0_0.length c0_0):=(blk_cell BK171.out 0).trans rfl
       have hcz11_1:wr.cell? ⟨gb171,1,none⟩=some (.slice A0_1 l0_1.length c0_1):=(blk_cell BK171.out 1).trans rfl
       have hfz11_0:=blk_frozen BK171.out 0
       have hfz11_1:=blk_frozen BK171.out 1
       go_wp2
       go_ret
       exact ⟨by first|rfl|(simp [errW_none,errW_some] <;> rfl)|(simp [*,errW_none,errW_some] <;> rfl),by repeat (first|(with_reducible first|exact HB.out|apply below_alloc|apply pw_below_drewN|apply below_drew1|refine below_set ?_ GE171.out)|exact HB.out)⟩
     · rw [if_neg c10] at H
       have c10b0:decide (x3_1 ≤ 8000)=false:=decide_eq_false c10
       clear c10
       obtain rfl:=Option.some.inj H
       go_wp2
       go_ret
       exact ⟨by first|rfl|(simp [errW_none,errW_some] <;> rfl)|(simp [*,errW_none,errW_some] <;> rfl),by repeat (first|(with_reducible first|exact HB.out|apply below_alloc|apply pw_below_drewN|apply below_drew1|refine below_set ?_ GE171.out)|exact HB.out)⟩
def wageofficeref43_Bytes.f (l0_0:List Int) (l0_1:List (S45)):Option (List Int):=(wageofficeref42_Read.f l0_0 l0_1 0 (l0_0.length:Int)).bind fun bt175=>(some bt175.1)
set_option maxHeartbeats 8000000 in
set_option maxRecDepth 100000 in
theorem wageofficeref43_Bytes.calls (A0_0:Option Addr) (c0_0:Nat) (l0_0:List Int) (A0_1:Option Addr) (c0_1:Nat) (l0_1:List (S45)) (r:List Int) (w:World) (hr0_0:Kd.C (Kd.int .u8) w A0_0 l0_0.length l0_0) (hc0_0:l0_0.length ≤ c0_0) (hr0_1:Kd.C k45 w A0_1 l0_1.length l0_1) (hc0_1:l0_1.length ≤ c0_1) (h:wageofficeref43_Bytes.f l0_0 l0_1=some r) :
 Calls Try.prog 54 #[.agg #[.slice A0_0 l0_0.length c0_0,.slice A0_1 l0_1.length c0_1]] w fun e w'=>∃ v0_:Value,e=.returned (v0_)∧Kd.Q (Kd.int .u8) 5 w' w.heap.size (fun _=>True) v0_ r∧Below w.heap.size w w':=by
 have hu25:=Try.underlying25
 have HR0_0:=Aside0.mk hr0_0
 have HC0_0:=Aside0.mk hc0_0
 clear hr0_0 hc0_0
 have HR0_1:=Aside0.mk hr0_1
 have HC0_1:=Aside0.mk hc0_1
 clear hr0_1 hc0_1
 have HB:=Aside0.mk (Below.refl w.heap.size w)
 have H:((wageofficeref42_Read.f l0_0 l0_1 0 (l0_0.length:Int)).bind fun bt175=>(some bt175.1))=some r:=h
 clear h
 replace H:=Option.bind_eq_some_iff.mp H
 obtain ⟨⟨t175,t178⟩,A20,H⟩:=H
 replace H:(some t175)=some r:=H
 have A2:=Aside0.mk A20
 clear A20
 obtain rfl:=Option.some.inj H
 go_enter Try.func54,Try.ntmps54
 go_wp2_with (first|((with_reducible refine gate_dst (N:=1) rfl ?_);refine box_event ?hg (N:=1) ?hd (cs:=#[.slice A0_0 l0_0.length c0_0,.slice A0_1 l0_1.length c0_1]) (t:=25) ?hr ?_;(case hd=>rfl);(case hg=>rfl);(case hr=>first|(go_simp;done)|(go_simp;rfl));intro gb174 hg w3 hbox hb;have n0_:=Aside0.mk (below_step (by repeat (first|(with_reducible first|exact HB.out|apply below_alloc|apply pw_below_drewN|apply below_drew1)|exact HB.out)) hb);have n1_:=Aside0.mk (hbox);have n2_:=Aside0.mk ((by rw [hg];exact (below_size (by repeat (first|(with_reducible first|exact HB.out|apply below_alloc|apply pw_below_drewN|apply below_drew1)|exact HB.out))):w.heap.size ≤ gb174));have n3_:=Aside0.mk ((by rw [hg];exact (below_size (by repeat (first|(with_reducible first|exact HB.out|apply below_alloc|apply pw_below_drewN|apply below_drew1)|exact HB.out))):w.heap.size ≤ gb174));clear HB;have HB:=n0_;have BK174:=n1_;have GW174:=n2_;have GE174:=n3_;clear n0_ n1_ n2_ n3_;clear hb hbox hg;have hcz4_0:w3.cell? ⟨gb174,0,none⟩=some (.slice A0_0 l0_0.length c0_0):=(blk_cell BK174.out 0).trans rfl;have hcz4_1:w3.cell? ⟨gb174,1,none⟩=some (.slice A0_1 l0_1.length c0_1):=(blk_cell BK174.out 1).trans rfl;have hfz4_0:=blk_frozen BK174.out 0;have hfz4_1:=blk_frozen BK174.out 1)|((with_reducible refine gate_callee (f:=24) rfl ?_);refine goesL_ (some 10) rfl rfl Try.func24 (by kernel_rfl) rfl #[.agg #[.slice A0_0 l0_0.length c0_0,.slice A0_1 l0_1.length c0_1],.int .i64 0,.int .i64 (l0_0.length:Int)] rfl (by (try simp only [List.map_toArray,List.map_cons,List.map_nil]);first|done|rfl|(simp only [List.length_drop,List.length_take];rfl)) ?_;(with_reducible refine (wageofficeref42_Read.calls _ _ l0_0 _ _ l0_1 0 (l0_0.length:Int) t175 t178 _ ?side1 ?side2 ?side3 ?side4 A2.out).mono ?_);(case side1=>repeat (first|exact (Kd.C_below HR0_0.out HB.out)|(with_reducible refine Kd.C_alloc ?_ _)|(with_reducible refine Kd.C_drewN ?_ _)|(with_reducible refine Kd.C_drew ?_)));(case side2=>exact HC0_0.out);(case side3=>repeat (first|exact (Kd.C_below HR0_1.out HB.out)|(with_reducible refine Kd.C_alloc ?_ _)|(with_reducible refine Kd.C_drewN ?_ _)|(with_reducible refine Kd.C_drew ?_)));(case side4=>exact HC0_1.out);rintro e w5 ⟨v176,rfl,ho0,hb⟩;refine ⟨_,rfl,?_⟩;have n0_:=Aside0.mk (Kd.Q_lower ho0 (below_size (by repeat (first|(with_reducible first|exact HB.out|apply below_alloc|apply pw_below_drewN|apply below_drew1|refine below_set ?_ GE174.out)|exact HB.out))));have n1_:=Aside0.mk (blk_below (g:=gb174) (o:=.cells #[.slice A0_0 l0_0.length c0_0,.slice A0_1 l0_1.length c0_1] 25 (0,0)) (by (with_reducible repeat (first|refine blk_drewN ?_ _|refine blk_drew ?_|refine blk_alloc ?_ _));exact BK174.out) hb);have n2_:=Aside0.mk (below_step (by repeat (first|(with_reducible first|exact HB.out|apply below_alloc|apply pw_below_drewN|apply below_drew1|refine below_set ?_ GE174.out)|exact HB.out)) hb);clear BK174;clear HB;have HO177:=n0_;have BK174:=n1_;have HB:=n2_;clear n0_ n1_ n2_;(try clear hb);(try clear hb2);(try clear hk);(try clear hi);(try clear ho0)))
 go_ret
 exact ⟨_,by first|rfl|(simp [errW_none,errW_some] <;> rfl)|(simp [*,errW_none,errW_some] <;> rfl),by (with_reducible repeat (first|apply Kd.Q_alloc|apply Kd.Q_drewN|apply Kd.Q_drew));exact HO177.out,by repeat (first|(with_reducible first|exact HB.out|apply below_alloc|apply pw_below_drewN|apply below_drew1|refine below_set ?_ GE174.out)|exact HB.out)⟩
def wageofficeref43_Same.l0:Nat→List Int→List Int→Int→Option (Bool)
 | 0,_,_,_=>none
 | k + 1,x0,x1,x5=>if x5 < (x0.length:Int) then (if 0 ≤ x5 then (if x5 < (x1.length:Int) then (if (rd x0 x5)=(rd x1 x5) then (wageofficeref43_Same.l0 k x0 x1 (wrap64 (x5 + 1))) else (some false)) else (none)) else (none)) else (some true)
def wageofficeref43_Same.f (k:Nat) (l0:List Int) (l1:List Int):Option (Bool):=if (l0.length:Int)=(l1.length:Int) then (wageofficeref43_Same.l0 k l0 l1 0) else (some false)
set_option maxHeartbeats 8000000 in
set_option maxRecDepth 100000 in
theorem wageofficeref43_Same.calls (k:Nat) (A0:Option Addr) (c0:Nat) (l0:List Int) (A1:Option Addr) (c1:Nat) (l1:List Int) (r:Bool) (w:World) (hr0:Kd.C (Kd.int .u8) w A0 l0.length l0) (hc0:l0.length ≤ c0) (hr1:Kd.C (Kd.int .u8) w A1 l1.length l1) (hc1:l1.length ≤ c1) (h:wageofficeref43_Same.f k l0 l1=some r) :
 Calls Try.prog 41 #[.slice A0 l0.length c0,.slice A1 l1.length c1] w fun e w'=>e=.returned (.bool r)∧Drawn0 w w':=by
 have HR0:=Aside0.mk hr0
 have HC0:=Aside0.mk hc0
 clear hr0 hc0
 have HR1:=Aside0.mk hr1
 have HC1:=Aside0.mk hc1
 clear hr1 hc1
 have H:(if (l0.length:Int)=(l1.length:Int) then (wageofficeref43_Same.l0 k l0 l1 0) else (some false))=some r:=h
 clear h
 by_cases c3:(l0.length:Int)=(l1.length:Int)
 · rw [if_pos c3] at H
   have c3b0:((l0.length:Int) == (l1.length:Int))=true:=beq_iff_eq.mpr c3
   have c3b1:((l0.length:Int) != (l1.length:Int))=false:=bne_eq_false_iff_eq.mpr c3
   have c3b2:(l0.length == l1.length)=true:=by first|simpa using c3|(simp at c3 ⊢;omega)
   clear c3
   have H':=Aside0.mk H
   clear H
   go_enter Try.func41,Try.ntmps41
   go_wp2
   repeat (go_quiet (fail);try go_wp2)
   go_loopg [5] k (fun kq v5 w'=>∃ (x5_1:Int),v5=.int .i64 x5_1∧Aside0 (wageofficeref43_Same.l0 kq l0 l1 x5_1=some r)∧Aside0 (kq ≤ k)∧Drawn0 w w')
   case atStart=>exact ⟨(0),(by first|rfl|(simp;done)|(simp [*];done)),H',⟨Nat.le_refl _⟩,by repeat (first|exact Drawn0.refl _|apply Drawn0.step)⟩
   case round =>
    clear H'
    try clear c1
    try clear p2
    try clear c3
    try clear c3b0
    try clear c3b1
    try clear c3b2
    obtain ⟨x5_1,rfl,HA,HK1,⟨m1,rfl⟩⟩:=hrel
    cases gk with
    | zero=>exact absurd HA.out (by simp [wageofficeref43_Same.l0])
    | succ k1 =>
     have H:=HA.out
     clear HA
     simp only [wageofficeref43_Same.l0] at H
     by_cases c4:x5_1 < (l0.length:Int)
     · rw [if_pos c4] at H
       have c4b0:decide (x5_1 < (l0.length:Int))=true:=decide_eq_true c4
       clear c4
       by_cases c5:0 ≤ x5_1
       · rw [if_pos c5] at H
         have c5b0:decide (0 ≤ x5_1)=true:=decide_eq_true c5
         clear c5
         by_cases c6:x5_1 < (l1.length:Int)
         · rw [if_pos c6] at H
           have c6b0:decide (x5_1 < (l1.length:Int))=true:=decide_eq_true c6
           clear c6
           by_cases c7:(rd l0 x5_1)=(rd l1 x5_1)
           · rw [if_pos c7] at H
             have c7b0:((rd l0 x5_1) == (rd l1 x5_1))=true:=beq_iff_eq.mpr c7
             have c7b1:((rd l0 x5_1) != (rd l1 x5_1))=false:=bne_eq_false_iff_eq.mpr c7
             clear c7
             have H':=Aside0.mk H
             clear H
             have p179:0 ≤ (x5_1:Int):=of_decide_eq_true (by first|(with_reducible assumption)|assumption)
             have q179:x5_1 < (l0.length:Int):=of_decide_eq_true (by first|(with_reducible assumption)|assumption)
             obtain ⟨ad179,e179,hx179_0⟩:=Kd.at_int HR0.out x5_1 p179 q179
             cases e179
             replace p179:=eq_true p179
             replace q179:=eq_true q179
             have p180:0 ≤ (x5_1:Int):=of_decide_eq_true (by first|(with_reducible assumption)|assumption)
             have q180:x5_1 < (l1.length:Int):=of_decide_eq_true (by first|(with_reducible assumption)|assumption)
             obtain ⟨ad180,e180,hx180_0⟩:=Kd.at_int HR1.out x5_1 p180 q180
             cases e180
             replace p180:=eq_true p180
             replace q180:=eq_true q180
             go_wp2
             repeat (go_quiet (fail);try go_wp2)
             go_roundg k1
             case measure=>have:=HK1.out;omega
             case rel=>exact ⟨(wrap64 (x5_1 + 1)),(by first|rfl|(simp;done)|(simp [*];done)),H',⟨by have:=HK1.out;omega⟩,by repeat (first|exact Drawn0.refl _|apply Drawn0.step)⟩
           · rw [if_neg c7] at H
             have c7b0:((rd l0 x5_1) == (rd l1 x5_1))=false:=beq_eq_false_iff_ne.mpr c7
             have c7b1:((rd l0 x5_1) != (rd l1 x5_1))=true:=bne_iff_ne.mpr c7
             obtain rfl:=Option.some.inj H
             have p179:0 ≤ (x5_1:Int):=of_decide_eq_true (by first|(with_reducible assumption)|assumption)
             have q179:x5_1 < (l0.length:Int):=of_decide_eq_true (by first|(with_reducible assumption)|assumption)
             obtain ⟨ad179,e179,hx179_0⟩:=Kd.at_int HR0.out x5_1 p179 q179
             cases e179
             replace p179:=eq_true p179
             replace q179:=eq_true q179
             have p180:0 ≤ (x5_1:Int):=of_decide_eq_true (by first|(with_reducible assumption)|assumption)
             have q180:x5_1 < (l1.length:Int):=of_decide_eq_true (by first|(with_reducible assumption)|assumption)
             obtain ⟨ad180,e180,hx180_0⟩:=Kd.at_int HR1.out x5_1 p180 q180
             cases e180
             replace p180:=eq_true p180
             replace q180:=eq_true q180
             go_wp2
             repeat (go_quiet (fail);try go_wp2)
             go_ret
             exact ⟨by first|rfl|(simp;done)|(simp [*];done),by repeat (first|exact Drawn0.refl _|apply Drawn0.step)⟩
         · rw [if_neg c6] at H
           exact absurd H (by simp)
       · rw [if_neg c5] at H
         exact absurd H (by simp)
     · rw [if_neg c4] at H
       have c4b0:decide (x5_1 < (l0.length:Int))=false:=decide_eq_false c4
       clear c4
       obtain rfl:=Option.some.inj H
       go_wp2
       repeat (go_quiet (fail);try go_wp2)
       go_ret
       exact ⟨by first|rfl|(simp;done)|(simp [*];done),by repeat (first|exact Drawn0.refl _|apply Drawn0.step)⟩
 · rw [if_neg c3] at H
   have c3b0:((l0.length:Int) == (l1.length:Int))=false:=beq_eq_false_iff_ne.mpr c3
   have c3b1:((l0.length:Int) != (l1.length:Int))=true:=bne_iff_ne.mpr c3
   have c3b2:(l0.length == l1.length)=false:=by first|simpa using c3|(simp at c3 ⊢;omega)
   obtain rfl:=Option.some.inj H
   go_enter Try.func41,Try.ntmps41
   go_wp2
   repeat (go_quiet (fail);try go_wp2)
   go_ret
   exact ⟨by first|rfl|(simp;done)|(simp [*];done),by repeat (first|exact Drawn0.refl _|apply Drawn0.step)⟩
def wageofficeref23_Finish.f (a0:Int) (a1:Int):Option (Int):=some (Go.bits .xor .u64 (IntKind.u64.wrap ((Go.bits .xor .u64 (IntKind.u64.wrap ((Go.bits .xor .u64 (Go.bits .xor .u64 a0 (IntKind.u64.wrap (a1))) (IntKind.u64.wrap (Int.tdiv (Go.bits .xor .u64 a0 (IntKind.u64.wrap (a1))) 2147483648))) * 13787848793156543929)) (IntKind.u64.wrap (Int.tdiv (IntKind.u64.wrap ((Go.bits .xor .u64 (Go.bits .xor .u64 a0 (IntKind.u64.wrap (a1))) (IntKind.u64.wrap (Int.tdiv (Go.bits .xor .u64 a0 (IntKind.u64.wrap (a1))) 2147483648))) * 13787848793156543929)) 134217728))) * 10723151780598845931)) (IntKind.u64.wrap (Int.tdiv (IntKind.u64.wrap ((Go.bits .xor .u64 (IntKind.u64.wrap ((Go.bits .xor .u64 (Go.bits .xor .u64 a0 (IntKind.u64.wrap (a1))) (IntKind.u64.wrap (Int.tdiv (Go.bits .xor .u64 a0 (IntKind.u64.wrap (a1))) 2147483648))) * 13787848793156543929)) (IntKind.u64.wrap (Int.tdiv (IntKind.u64.wrap ((Go.bits .xor .u64 (Go.bits .xor .u64 a0 (IntKind.u64.wrap (a1))) (IntKind.u64.wrap (Int.tdiv (Go.bits .xor .u64 a0 (IntKind.u64.wrap (a1))) 2147483648))) * 13787848793156543929)) 134217728))) * 10723151780598845931)) 8589934592)))
set_option maxHeartbeats 8000000 in
set_option maxRecDepth 100000 in
theorem wageofficeref23_Finish.calls (a0:Int) (a1:Int) (r:Int) (w:World) (h:wageofficeref23_Finish.f a0 a1=some r) :
 Calls Try.prog 68 #[.int .u64 a0,.int .i64 a1] w fun e w'=>e=.returned (.int .u64 r)∧Drawn0 w w':=by
 have H:(some (Go.bits .xor .u64 (IntKind.u64.wrap ((Go.bits .xor .u64 (IntKind.u64.wrap ((Go.bits .xor .u64 (Go.bits .xor .u64 a0 (IntKind.u64.wrap (a1))) (IntKind.u64.wrap (Int.tdiv (Go.bits .xor .u64 a0 (IntKind.u64.wrap (a1))) 2147483648))) * 13787848793156543929)) (IntKind.u64.wrap (Int.tdiv (IntKind.u64.wrap ((Go.bits .xor .u64 (Go.bits .xor .u64 a0 (IntKind.u64.wrap (a1))) (IntKind.u64.wrap (Int.tdiv (Go.bits .xor .u64 a0 (IntKind.u64.wrap (a1))) 2147483648))) * 13787848793156543929)) 134217728))) * 10723151780598845931)) (IntKind.u64.wrap (Int.tdiv (IntKind.u64.wrap ((Go.bits .xor .u64 (IntKind.u64.wrap ((Go.bits .xor .u64 (Go.bits .xor .u64 a0 (IntKind.u64.wrap (a1))) (IntKind.u64.wrap (Int.tdiv (Go.bits .xor .u64 a0 (IntKind.u64.wrap (a1))) 2147483648))) * 13787848793156543929)) (IntKind.u64.wrap (Int.tdiv (IntKind.u64.wrap ((Go.bits .xor .u64 (Go.bits .xor .u64 a0 (IntKind.u64.wrap (a1))) (IntKind.u64.wrap (Int.tdiv (Go.bits .xor .u64 a0 (IntKind.u64.wrap (a1))) 2147483648))) * 13787848793156543929)) 134217728))) * 10723151780598845931)) 8589934592))))=some r:=h
 clear h
 obtain rfl:=Option.some.inj H
 go_enter Try.func68,Try.ntmps68
 go_wp2
 go_ret
 exact ⟨by first|rfl|(simp;done)|(simp [*];done),by repeat (first|exact Drawn0.refl _|apply Drawn0.step)⟩
def wageofficeref23_State.l0:Nat→ByteArray→Int→Int→Option (Int)
 | 0,_,_,_=>none
 | k + 1,x0,x3,x4=>if x4 < (x0.size:Int) then (if 0 ≤ x4 then (wageofficeref23_State.l0 k x0 (Go.bits .xor .u64 (IntKind.u64.wrap ((Go.bits .xor .u64 x3 (IntKind.u64.wrap (bt x0 x4))) * 1099511628211)) (IntKind.u64.wrap (Int.tdiv (IntKind.u64.wrap ((Go.bits .xor .u64 x3 (IntKind.u64.wrap (bt x0 x4))) * 1099511628211)) 4294967296))) (wrap64 (x4 + 1))) else (none)) else (some x3)
def wageofficeref23_State.f (k:Nat) (a0:ByteArray):Option (Int):=wageofficeref23_State.l0 k a0 2611923443488327891 0
set_option maxHeartbeats 8000000 in
set_option maxRecDepth 100000 in
theorem wageofficeref23_State.calls (k:Nat) (a0:ByteArray) (r:Int) (w:World) (h:wageofficeref23_State.f k a0=some r) :
 Calls Try.prog 69 #[.string a0] w fun e w'=>e=.returned (.int .u64 r)∧Drawn0 w w':=by
 have H:(wageofficeref23_State.l0 k a0 2611923443488327891 0)=some r:=h
 clear h
 have H':=Aside0.mk H
 clear H
 go_enter Try.func69,Try.ntmps69
 go_wp2
 go_loopg [3,4] k (fun kq v3 v4 w'=>∃ (x3_1:Int) (x4_1:Int),v3=.int .u64 x3_1∧v4=.int .i64 x4_1∧Aside0 (wageofficeref23_State.l0 kq a0 x3_1 x4_1=some r)∧Aside0 (kq ≤ k)∧Drawn0 w w')
 case atStart=>exact ⟨(2611923443488327891),(0),(by first|rfl|(simp;done)|(simp [*];done)),(by first|rfl|(simp;done)|(simp [*];done)),H',⟨Nat.le_refl _⟩,by repeat (first|exact Drawn0.refl _|apply Drawn0.step)⟩
 case round =>
  clear H'
  obtain ⟨x3_1,x4_1,rfl,rfl,HA,HK1,⟨m1,rfl⟩⟩:=hrel
  cases gk with
  | zero=>exact absurd HA.out (by simp [wageofficeref23_State.l0])
  | succ k1 =>
   have H:=HA.out
   clear HA
   simp only [wageofficeref23_State.l0] at H
   by_cases c2:x4_1 < (a0.size:Int)
   · rw [if_pos c2] at H
     have c2b0:decide (x4_1 < (a0.size:Int))=true:=decide_eq_true c2
     clear c2
     by_cases c3:0 ≤ x4_1
     · rw [if_pos c3] at H
       have c3b0:decide (0 ≤ x4_1)=true:=decide_eq_true c3
       clear c3
       have H':=Aside0.mk H
       clear H
       have p4:0 ≤ (x4_1:Int):=of_decide_eq_true (by first|(with_reducible assumption)|assumption)
       have q4:x4_1 < (a0.size:Int):=of_decide_eq_true (by first|(with_reducible assumption)|assumption)
       have hx4:=bt_at a0 x4_1
       replace p4:=eq_true p4
       replace q4:=eq_true q4
       go_wp2
       go_roundg k1
       case measure=>have:=HK1.out;omega
       case rel=>exact ⟨(Go.bits .xor .u64 (IntKind.u64.wrap ((Go.bits .xor .u64 x3_1 (IntKind.u64.wrap (bt a0 x4_1))) * 1099511628211)) (IntKind.u64.wrap (Int.tdiv (IntKind.u64.wrap ((Go.bits .xor .u64 x3_1 (IntKind.u64.wrap (bt a0 x4_1))) * 1099511628211)) 4294967296))),(wrap64 (x4_1 + 1)),(by first|rfl|(simp;done)|(simp [*];done)),(by first|rfl|(simp;done)|(simp [*];done)),H',⟨by have:=HK1.out;omega⟩,by repeat (first|exact Drawn0.refl _|apply Drawn0.step)⟩
     · rw [if_neg c3] at H
       exact absurd H (by simp)
   · rw [if_neg c2] at H
     have c2b0:decide (x4_1 < (a0.size:Int))=false:=decide_eq_false c2
     clear c2
     obtain rfl:=Option.some.inj H
     go_wp2
     go_ret
     exact ⟨by first|rfl|(simp;done)|(simp [*];done),by repeat (first|exact Drawn0.refl _|apply Drawn0.step)⟩
def wageofficeref23_Sum.f (k:Nat) (a0:ByteArray):Option (Int):=(wageofficeref23_State.f k a0).bind fun t181=>((wageofficeref23_Finish.f t181 (a0.size:Int)).bind fun t182=>(some t182))
set_option maxHeartbeats 8000000 in
set_option maxRecDepth 100000 in
theorem wageofficeref23_Sum.calls (k:Nat) (a0:ByteArray) (r:Int) (w:World) (h:wageofficeref23_Sum.f k a0=some r) :
 Calls Try.prog 64 #[.string a0] w fun e w'=>e=.returned (.int .u64 r)∧Drawn0 w w':=by
 have H:((wageofficeref23_State.f k a0).bind fun t181=>((wageofficeref23_Finish.f t181 (a0.size:Int)).bind fun t182=>(some t182)))=some r:=h
 clear h
 replace H:=Option.bind_eq_some_iff.mp H
 obtain ⟨t181,A20,H⟩:=H
 replace H:((wageofficeref23_Finish.f t181 (a0.size:Int)).bind fun t182=>(some t182))=some r:=H
 have A2:=Aside0.mk A20
 clear A20
 replace H:=Option.bind_eq_some_iff.mp H
 obtain ⟨t182,A30,H⟩:=H
 replace H:(some t182)=some r:=H
 have A3:=Aside0.mk A30
 clear A30
 obtain rfl:=Option.some.inj H
 go_enter Try.func64,Try.ntmps64
 go_wp2_with (first|((with_reducible refine gate_callee (f:=69) rfl ?_);refine goesL_ (some 4) rfl rfl Try.func69 (by kernel_rfl) rfl #[.string a0] rfl (by (try simp only [List.map_toArray,List.map_cons,List.map_nil]);first|done|rfl|(simp only [List.length_drop,List.length_take];rfl)) ?_;(with_reducible refine (wageofficeref23_State.calls k a0 t181 _ A2.out).mono ?_);rintro e w' ⟨rfl,⟨nd,rfl⟩⟩;refine ⟨_,rfl,?_⟩)|((with_reducible refine gate_callee (f:=68) rfl ?_);refine goesL_ (some 7) rfl rfl Try.func68 (by kernel_rfl) rfl #[.int .u64 t181,.int .i64 (a0.size:Int)] rfl (by (try simp only [List.map_toArray,List.map_cons,List.map_nil]);first|done|rfl|(simp only [List.length_drop,List.length_take];rfl)) ?_;(with_reducible refine (wageofficeref23_Finish.calls t181 (a0.size:Int) t182 _ A3.out).mono ?_);rintro e w' ⟨rfl,⟨nd,rfl⟩⟩;refine ⟨_,rfl,?_⟩))
 go_ret
 exact ⟨by first|rfl|(simp;done)|(simp [*];done),by repeat (first|exact Drawn0.refl _|apply Drawn0.step)⟩
end Go.Proofs.Ytfpdmlhknddffaa.Dk
end
section
namespace Go.Proofs.Ytfpdmlhknddffaa.Dk
open Go.RowKit Go.Proofs.YtfpdmlhknddffaaW.PrintWords Go.Proofs.YtfpdmlhknddffaaW.PrintLast Go.Proofs.YtfpdmlhknddffaaW.PrintMore
attribute [local go_sem] field25 field25b max2_int min2_int max_two min_two max_three min_three max_four min_four
set_option linter.unusedVariables false
set_option linter.unusedSimpArgs false
def wageofficeref43_SameAll.l0:Nat→List (List Int)→List (List Int)→Int→Option (Bool)
 | 0,_,_,_=>none
 | k + 1,x0,x1,x5=>if x5 < (x0.length:Int) then (if 0 ≤ x5 then (if x5 < (x1.length:Int) then ((wageofficeref43_Same.f k (rd_L2 x0 x5) (rd_L2 x1 x5)).bind fun t302=>(if t302=true then (wageofficeref43_SameAll.l0 k x0 x1 (wrap64 (x5 + 1))) else (some false))) else (none)) else (none)) else (some true)
def wageofficeref43_SameAll.f (k:Nat) (l0:List (List Int)) (l1:List (List Int)):Option (Bool):=if (l0.length:Int)=(l1.length:Int) then (wageofficeref43_SameAll.l0 k l0 l1 0) else (some false)
set_option maxHeartbeats 8000000 in
set_option maxRecDepth 100000 in
theorem wageofficeref43_SameAll.calls (k:Nat) (A0:Option Addr) (c0:Nat) (l0:List (List Int)) (A1:Option Addr) (c1:Nat) (l1:List (List Int)) (r:Bool) (w:World) (hr0:Kd.C (Kd.slice 5 (Kd.int .u8)) w A0 l0.length l0) (hc0:l0.length ≤ c0) (hr1:Kd.C (Kd.slice 5 (Kd.int .u8)) w A1 l1.length l1) (hc1:l1.length ≤ c1) (h:wageofficeref43_SameAll.f k l0 l1=some r) :
 Calls Try.prog 39 #[.slice A0 l0.length c0,.slice A1 l1.length c1] w fun e w'=>e=.returned (.bool r)∧Drawn0 w w':=by
 have HR0:=Aside0.mk hr0
 have HC0:=Aside0.mk hc0
 clear hr0 hc0
 have HR1:=Aside0.mk hr1
 have HC1:=Aside0.mk hc1
 clear hr1 hc1
 have H:(if (l0.length:Int)=(l1.length:Int) then (wageofficeref43_SameAll.l0 k l0 l1 0) else (some false))=some r:=h
 clear h
 by_cases c3:(l0.length:Int)=(l1.length:Int)
 · rw [if_pos c3] at H
   have c3b0:((l0.length:Int) == (l1.length:Int))=true:=beq_iff_eq.mpr c3
   have c3b1:((l0.length:Int) != (l1.length:Int))=false:=bne_eq_false_iff_eq.mpr c3
   have c3b2:(l0.length == l1.length)=true:=by first|simpa using c3|(simp at c3 ⊢;omega)
   clear c3
   have H':=Aside0.mk H
   clear H
   go_enter Try.func39,Try.ntmps39
   go_wp2
   repeat (go_quiet (fail);try go_wp2)
   go_loopg [5] k (fun kq v5 w'=>∃ (x5_1:Int),v5=.int .i64 x5_1∧Aside0 (wageofficeref43_SameAll.l0 kq l0 l1 x5_1=some r)∧Aside0 (kq ≤ k)∧Drawn0 w w')
   case atStart=>exact ⟨(0),(by first|rfl|(simp;done)|(simp [*];done)),H',⟨Nat.le_refl _⟩,by repeat (first|exact Drawn0.refl _|apply Drawn0.step)⟩
   case round =>
    clear H'
    try clear c1
    try clear p2
    try clear c3
    try clear c3b0
    try clear c3b1
    try clear c3b2
    obtain ⟨x5_1,rfl,HA,HK1,⟨m1,rfl⟩⟩:=hrel
    cases gk with
    | zero=>exact absurd HA.out (by simp [wageofficeref43_SameAll.l0])
    | succ k1 =>
     have H:=HA.out
     clear HA
     simp only [wageofficeref43_SameAll.l0] at H
     by_cases c4:x5_1 < (l0.length:Int)
     · rw [if_pos c4] at H
       have c4b0:decide (x5_1 < (l0.length:Int))=true:=decide_eq_true c4
       clear c4
       by_cases c5:0 ≤ x5_1
       · rw [if_pos c5] at H
         have c5b0:decide (0 ≤ x5_1)=true:=decide_eq_true c5
         clear c5
         by_cases c6:x5_1 < (l1.length:Int)
         · rw [if_pos c6] at H
           have c6b0:decide (x5_1 < (l1.length:Int))=true:=decide_eq_true c6
           clear c6
           replace H:=Option.bind_eq_some_iff.mp H
           obtain ⟨t302,A70,H⟩:=H
           replace H:(if t302=true then (wageofficeref43_SameAll.l0 k1 l0 l1 (wrap64 (x5_1 + 1))) else (some false))=some r:=H
           have A7:=Aside0.mk A70
           clear A70
           by_cases c8:t302=true
           · subst c8
             have H1:(wageofficeref43_SameAll.l0 k1 l0 l1 (wrap64 (x5_1 + 1)))=some r:=by rw [if_pos rfl] at H;exact H
             clear H
             have H:=H1
             clear H1
             have H':=Aside0.mk H
             clear H
             have p300:0 ≤ (x5_1:Int):=of_decide_eq_true (by first|(with_reducible assumption)|assumption)
             have q300:x5_1 < (l0.length:Int):=of_decide_eq_true (by first|(with_reducible assumption)|assumption)
             obtain ⟨ad300,A300_0,c300_0,e300,hx300_0,hl300_0,hi300_0⟩:=at_L2 HR0.out x5_1 p300 q300
             cases e300
             have HR300_0:=Aside0.mk hi300_0
             have HC300_0:=Aside0.mk hl300_0
             clear hi300_0 hl300_0
             replace p300:=eq_true p300
             replace q300:=eq_true q300
             have p301:0 ≤ (x5_1:Int):=of_decide_eq_true (by first|(with_reducible assumption)|assumption)
             have q301:x5_1 < (l1.length:Int):=of_decide_eq_true (by first|(with_reducible assumption)|assumption)
             obtain ⟨ad301,A301_0,c301_0,e301,hx301_0,hl301_0,hi301_0⟩:=at_L2 HR1.out x5_1 p301 q301
             cases e301
             have HR301_0:=Aside0.mk hi301_0
             have HC301_0:=Aside0.mk hl301_0
             clear hi301_0 hl301_0
             replace p301:=eq_true p301
             replace q301:=eq_true q301
             go_wp2_with (first|(go_at_call 41;(with_reducible refine (wageofficeref43_Same.calls k1 _ _ (rd_L2 l0 x5_1) _ _ (rd_L2 l1 x5_1) true _ ?side1 ?side2 ?side3 ?side4 A7.out).mono ?_);(case side1=>repeat (first|exact HR300_0.out|(with_reducible refine Kd.C_alloc ?_ _)|(with_reducible refine Kd.C_drewN ?_ _)|(with_reducible refine Kd.C_drew ?_)));(case side2=>exact HC300_0.out);(case side3=>repeat (first|exact HR301_0.out|(with_reducible refine Kd.C_alloc ?_ _)|(with_reducible refine Kd.C_drewN ?_ _)|(with_reducible refine Kd.C_drew ?_)));(case side4=>exact HC301_0.out);rintro e w' ⟨rfl,⟨nd,rfl⟩⟩;(try first|exact ⟨rfl,_,World.drewN_drewN _ _ _⟩|exact ⟨rfl,_,Eq.trans (World.drewN_drewN _ _ _) (congrArg (World.drewN _) (Nat.add_assoc _ _ _))⟩)))
             repeat (go_quiet (first|(go_at_call 41;(with_reducible refine (wageofficeref43_Same.calls k1 _ _ (rd_L2 l0 x5_1) _ _ (rd_L2 l1 x5_1) true _ ?side1 ?side2 ?side3 ?side4 A7.out).mono ?_);(case side1=>repeat (first|exact HR300_0.out|(with_reducible refine Kd.C_alloc ?_ _)|(with_reducible refine Kd.C_drewN ?_ _)|(with_reducible refine Kd.C_drew ?_)));(case side2=>exact HC300_0.out);(case side3=>repeat (first|exact HR301_0.out|(with_reducible refine Kd.C_alloc ?_ _)|(with_reducible refine Kd.C_drewN ?_ _)|(with_reducible refine Kd.C_drew ?_)));(case side4=>exact HC301_0.out);rintro e w' ⟨rfl,⟨nd,rfl⟩⟩;(try first|exact ⟨rfl,_,World.drewN_drewN _ _ _⟩|exact ⟨rfl,_,Eq.trans (World.drewN_drewN _ _ _) (congrArg (World.drewN _) (Nat.add_assoc _ _ _))⟩)));try go_wp2_with (first|(go_at_call 41;(with_reducible refine (wageofficeref43_Same.calls k1 _ _ (rd_L2 l0 x5_1) _ _ (rd_L2 l1 x5_1) true _ ?side1 ?side2 ?side3 ?side4 A7.out).mono ?_);(case side1=>repeat (first|exact HR300_0.out|(with_reducible refine Kd.C_alloc ?_ _)|(with_reducible refine Kd.C_drewN ?_ _)|(with_reducible refine Kd.C_drew ?_)));(case side2=>exact HC300_0.out);(case side3=>repeat (first|exact HR301_0.out|(with_reducible refine Kd.C_alloc ?_ _)|(with_reducible refine Kd.C_drewN ?_ _)|(with_reducible refine Kd.C_drew ?_)));(case side4=>exact HC301_0.out);rintro e w' ⟨rfl,⟨nd,rfl⟩⟩;(try first|exact ⟨rfl,_,World.drewN_drewN _ _ _⟩|exact ⟨rfl,_,Eq.trans (World.drewN_drewN _ _ _) (congrArg (World.drewN _) (Nat.add_assoc _ _ _))⟩))))
             go_roundg k1
             case measure=>have:=HK1.out;omega
             case rel=>exact ⟨(wrap64 (x5_1 + 1)),(by first|rfl|(simp;done)|(simp [*];done)),H',⟨by have:=HK1.out;omega⟩,by repeat (first|exact Drawn0.refl _|apply Drawn0.step)⟩
           · replace c8:=Bool.eq_false_iff.mpr c8
             subst c8
             have H1:(some false)=some r:=by rw [if_neg (show ¬ (false=true) by decide)] at H;exact H
             clear H
             have H:=H1
             clear H1
             obtain rfl:=Option.some.inj H
             have p300:0 ≤ (x5_1:Int):=of_decide_eq_true (by first|(with_reducible assumption)|assumption)
             have q300:x5_1 < (l0.length:Int):=of_decide_eq_true (by first|(with_reducible assumption)|assumption)
             obtain ⟨ad300,A300_0,c300_0,e300,hx300_0,hl300_0,hi300_0⟩:=at_L2 HR0.out x5_1 p300 q300
             cases e300
             have HR300_0:=Aside0.mk hi300_0
             have HC300_0:=Aside0.mk hl300_0
             clear hi300_0 hl300_0
             replace p300:=eq_true p300
             replace q300:=eq_true q300
             have p301:0 ≤ (x5_1:Int):=of_decide_eq_true (by first|(with_reducible assumption)|assumption)
             have q301:x5_1 < (l1.length:Int):=of_decide_eq_true (by first|(with_reducible assumption)|assumption)
             obtain ⟨ad301,A301_0,c301_0,e301,hx301_0,hl301_0,hi301_0⟩:=at_L2 HR1.out x5_1 p301 q301
             cases e301
             have HR301_0:=Aside0.mk hi301_0
             have HC301_0:=Aside0.mk hl301_0
             clear hi301_0 hl301_0
             replace p301:=eq_true p301
             replace q301:=eq_true q301
             go_wp2_with (first|(go_at_call 41;(with_reducible refine (wageofficeref43_Same.calls k1 _ _ (rd_L2 l0 x5_1) _ _ (rd_L2 l1 x5_1) false _ ?side1 ?side2 ?side3 ?side4 A7.out).mono ?_);(case side1=>repeat (first|exact HR300_0.out|(with_reducible refine Kd.C_alloc ?_ _)|(with_reducible refine Kd.C_drewN ?_ _)|(with_reducible refine Kd.C_drew ?_)));(case side2=>exact HC300_0.out);(case side3=>repeat (first|exact HR301_0.out|(with_reducible refine Kd.C_alloc ?_ _)|(with_reducible refine Kd.C_drewN ?_ _)|(with_reducible refine Kd.C_drew ?_)));(case side4=>exact HC301_0.out);rintro e w' ⟨rfl,⟨nd,rfl⟩⟩;(try first|exact ⟨rfl,_,World.drewN_drewN _ _ _⟩|exact ⟨rfl,_,Eq.trans (World.drewN_drewN _ _ _) (congrArg (World.drewN _) (Nat.add_assoc _ _ _))⟩)))
             repeat (go_quiet (first|(go_at_call 41;(with_reducible refine (wageofficeref43_Same.calls k1 _ _ (rd_L2 l0 x5_1) _ _ (rd_L2 l1 x5_1) false _ ?side1 ?side2 ?side3 ?side4 A7.out).mono ?_);(case side1=>repeat (first|exact HR300_0.out|(with_reducible refine Kd.C_alloc ?_ _)|(with_reducible refine Kd.C_drewN ?_ _)|(with_reducible refine Kd.C_drew ?_)));(case side2=>exact HC300_0.out);(case side3=>repeat (first|exact HR301_0.out|(with_reducible refine Kd.C_alloc ?_ _)|(with_reducible refine Kd.C_drewN ?_ _)|(with_reducible refine Kd.C_drew ?_)));(case side4=>exact HC301_0.out);rintro e w' ⟨rfl,⟨nd,rfl⟩⟩;(try first|exact ⟨rfl,_,World.drewN_drewN _ _ _⟩|exact ⟨rfl,_,Eq.trans (World.drewN_drewN _ _ _) (congrArg (World.drewN _) (Nat.add_assoc _ _ _))⟩)));try go_wp2_with (first|(go_at_call 41;(with_reducible refine (wageofficeref43_Same.calls k1 _ _ (rd_L2 l0 x5_1) _ _ (rd_L2 l1 x5_1) false _ ?side1 ?side2 ?side3 ?side4 A7.out).mono ?_);(case side1=>repeat (first|exact HR300_0.out|(with_reducible refine Kd.C_alloc ?_ _)|(with_reducible refine Kd.C_drewN ?_ _)|(with_reducible refine Kd.C_drew ?_)));(case side2=>exact HC300_0.out);(case side3=>repeat (first|exact HR301_0.out|(with_reducible refine Kd.C_alloc ?_ _)|(with_reducible refine Kd.C_drewN ?_ _)|(with_reducible refine Kd.C_drew ?_)));(case side4=>exact HC301_0.out);rintro e w' ⟨rfl,⟨nd,rfl⟩⟩;(try first|exact ⟨rfl,_,World.drewN_drewN _ _ _⟩|exact ⟨rfl,_,Eq.trans (World.drewN_drewN _ _ _) (congrArg (World.drewN _) (Nat.add_assoc _ _ _))⟩))))
             go_ret
             exact ⟨by first|rfl|(simp;done)|(simp [*];done),by repeat (first|exact Drawn0.refl _|apply Drawn0.step)⟩
         · rw [if_neg c6] at H
           exact absurd H (by simp)
       · rw [if_neg c5] at H
         exact absurd H (by simp)
     · rw [if_neg c4] at H
       have c4b0:decide (x5_1 < (l0.length:Int))=false:=decide_eq_false c4
       clear c4
       obtain rfl:=Option.some.inj H
       go_wp2
       repeat (go_quiet (fail);try go_wp2)
       go_ret
       exact ⟨by first|rfl|(simp;done)|(simp [*];done),by repeat (first|exact Drawn0.refl _|apply Drawn0.step)⟩
 · rw [if_neg c3] at H
   have c3b0:((l0.length:Int) == (l1.length:Int))=false:=beq_eq_false_iff_ne.mpr c3
   have c3b1:((l0.length:Int) != (l1.length:Int))=true:=bne_iff_ne.mpr c3
   have c3b2:(l0.length == l1.length)=false:=by first|simpa using c3|(simp at c3 ⊢;omega)
   obtain rfl:=Option.some.inj H
   go_enter Try.func39,Try.ntmps39
   go_wp2
   repeat (go_quiet (fail);try go_wp2)
   go_ret
   exact ⟨by first|rfl|(simp;done)|(simp [*];done),by repeat (first|exact Drawn0.refl _|apply Drawn0.step)⟩
end Go.Proofs.Ytfpdmlhknddffaa.Dk
end
section
namespace Go.Proofs.Ytfpdmlhknddffaa.Dk
open Go.RowKit Go.Proofs.YtfpdmlhknddffaaW.PrintWords Go.Proofs.YtfpdmlhknddffaaW.PrintLast Go.Proofs.YtfpdmlhknddffaaW.PrintMore
attribute [local go_sem] field25 field25b max2_int min2_int max_two min_two max_three min_three max_four min_four
set_option linter.unusedVariables false
set_option linter.unusedSimpArgs false
end Go.Proofs.Ytfpdmlhknddffaa.Dk
end
section
namespace Go.Proofs.Ytfpdmlhknddffaa.Dk
open Go.RowKit Go.Proofs.YtfpdmlhknddffaaW.PrintWords Go.Proofs.YtfpdmlhknddffaaW.PrintLast Go.Proofs.YtfpdmlhknddffaaW.PrintMore
set_option linter.unusedVariables false
theorem applyN_app (f:Nat→Int) (l1 m:List S45) (l0:List Int):∀ n,n ≤ l1.length→applyN f (l1 ++ m) l0 n=applyN f l1 l0 n:=by
 intro n
 induction n with
 | zero=>intro _;rfl
 | succ n ih =>
  intro h
  have e:(l1 ++ m).getD n z45=l1.getD n z45:=by simp only [List.getD_eq_getElem?_getD];rw [List.getElem?_append_left (by omega)]
  simp only [applyN]
  rw [ih (by omega),e]
theorem sync_len (l0:List Int) (l1:List S45) (hv:validB l0 l1=true):(syncL l0 l1).length=l0.length:=by
 unfold syncL applyL
 rw [if_pos hv]
 exact applyN_length _ _ _ hv _ (Nat.le_refl _)
theorem keptN_all (n:Nat):keptN (n:Int) n=n:=by unfold keptN;omega
theorem valid_snoc (l0:List Int) (l1:List S45) (a:Int) (l2:List Int) (hv:validB l0 l1=true) (hp:isPartB l0.length a l2.length=true) (h64:l1.length ≠ 64):validB l0 (l1 ++ [⟨a,l2⟩])=true:=by
 obtain ⟨h1,h2,h3⟩:=(validB_iff _ _).1 hv
 obtain ⟨p1,p2,p3,p4⟩:=(isPartB_iff _ _ _).1 hp
 refine (validB_iff _ _).2 ⟨h1,by simp;omega,fun x hx => ?_⟩
 rcases List.mem_append.1 hx with hx|hx
 · exact h3 x hx
 · simp at hx
   subst hx
   exact ⟨p1,by show a + (l2.length:Int) ≤ l0.length;omega⟩
theorem sync_snoc (l0:List Int) (l1:List S45) (a:Int) (l2:List Int) (hv:validB l0 l1=true) (hv2:validB l0 (l1 ++ [⟨a,l2⟩])=true):syncL l0 (l1 ++ [⟨a,l2⟩])=splice (syncL l0 l1) a.toNat l2:=by
 unfold syncL applyL
 rw [if_pos hv,if_pos hv2]
 have e:(l1 ++ [(⟨a,l2⟩:S45)]).length=l1.length + 1:=by simp
 rw [e]
 simp only [applyN]
 rw [applyN_app _ _ _ _ _ (Nat.le_refl _)]
 have e2:(l1 ++ [(⟨a,l2⟩:S45)]).getD l1.length z45=⟨a,l2⟩:=by simp [List.getD_eq_getElem?_getD]
 have e3:wholeK (l1 ++ [(⟨a,l2⟩:S45)]) l1.length=(l2.length:Int):=by unfold wholeK;rw [e2]
 rw [e2,e3]
 show splice _ a.toNat (l2.take (keptN (l2.length:Int) l2.length))=_
 rw [keptN_all,List.take_length]
 congr 1
 refine applyN_congr _ _ _ _ _ (fun i hi => ?_)
 unfold wholeK
 simp only [List.getD_eq_getElem?_getD]
 rw [List.getElem?_append_left hi]
theorem part_whole (n:Nat):isPartB (n:Int) 0 (n:Int)=true:=(isPartB_iff _ _ _).2 (by omega)
end Go.Proofs.Ytfpdmlhknddffaa.Dk
end
section
namespace Go.Proofs.Ytfpdmlhknddffaa.Dk
open Go.RowKit Go.Proofs.YtfpdmlhknddffaaW.PrintWords Go.Proofs.YtfpdmlhknddffaaW.PrintLast Go.Proofs.YtfpdmlhknddffaaW.PrintMore
set_option linter.unusedVariables false
end Go.Proofs.Ytfpdmlhknddffaa.Dk
end
section
namespace Go.Proofs.Ytfpdmlhknddffaa.Dk
open Go.RowKit Go.Proofs.YtfpdmlhknddffaaW.PrintWords Go.Proofs.YtfpdmlhknddffaaW.PrintLast Go.Proofs.YtfpdmlhknddffaaW.PrintMore
set_option linter.unusedVariables false
def apart (x y:S45):Prop:=y.f0 + (y.f1.length:Int) ≤ x.f0∨x.f0 + (x.f1.length:Int) ≤ y.f0
end Go.Proofs.Ytfpdmlhknddffaa.Dk
end
section
namespace Go.Proofs.Ytfpdmlhknddffaa.Dk
open Go.RowKit Go.Proofs.YtfpdmlhknddffaaW.PrintWords Go.Proofs.YtfpdmlhknddffaaW.PrintLast Go.Proofs.YtfpdmlhknddffaaW.PrintMore
set_option linter.unusedVariables false
theorem kept_at {k:IntKind} {w:World} {A:Option Addr} {xs:List Int} (h:Kd.C (Kd.int k) w A xs.length xs) (hn:0 < xs.length):∃ ad,A=some ad∧∀ i,i < xs.length→w.cell? (ad.add i)=some (.int k (xs.getD i 0)):=by
 obtain ⟨ad,e,hc⟩:=h.2.2 hn
 refine ⟨ad,e,fun i hi => ?_⟩
 obtain ⟨c,hl,hK,hcell⟩:=hc i _ (List.getElem?_eq_getElem hi)
 have hK2:c=[.int k xs[i]]:=hK
 subst hK2
 have h0:w.cell? (ad.add (i * 1 + 0))=some (.int k xs[i]):=hcell 0 _ rfl
 rw [Nat.mul_one,Nat.add_zero] at h0
 rw [h0]
 simp [List.getD_eq_getElem?_getD,hi]
def St (w W:World) (B g1 g2 g3:Nat) (c1 c2 c3:Array Value):Prop:=W.heap[g1]? = some (.cells c1 25 (0,0))∧W.heap[g2]? = some (.cells c2 45 (0,0))∧W.heap[g3]? = some (.cells c3 45 (0,0))∧Below w.heap.size w W∧B ≤ W.heap.size∧g1 < B∧g2 < B∧g3 < B∧w.heap.size ≤ B
section
variable {w W W1:World} {B g1 g2 g3:Nat} {c1 c2 c3:Array Value}
theorem St.below (h:St w W B g1 g2 g3 c1 c2 c3) (hb:Below W.heap.size W W1):St w W1 B g1 g2 g3 c1 c2 c3:=by
 obtain ⟨h1,h2,h3,h4,h5,h6⟩:=h
 exact ⟨blk_below h1 hb,blk_below h2 hb,blk_below h3 hb,below_then h4 h4.size hb,Nat.le_trans h5 hb.size,h6⟩
theorem St.alloc (h:St w W B g1 g2 g3 c1 c2 c3) (o:Obj):St w (W.alloc o) B g1 g2 g3 c1 c2 c3:=h.below (below_alloc (Below.refl _ _) o)
theorem St.grown (h:St w W B g1 g2 g3 c1 c2 c3) {row:Option Nat} (hg:W.grownBy W1 row) (hr:∀ k,row=some k→B ≤ k):St w W1 B g1 g2 g3 c1 c2 c3:=by
 obtain ⟨h1,h2,h3,h4,h5,h6,h7,h8,h9⟩:=h
 have hne:∀ g,g < B→some g ≠ row:=fun g hg he=>by have:=hr g he.symm;omega
 exact ⟨blk_grown h1 hg (hne _ h6),blk_grown h2 hg (hne _ h7),blk_grown h3 hg (hne _ h8),pw_below_grown h4 row h4.size hg (fun k hk=>Nat.le_trans h9 (hr k hk)),Nat.le_trans h5 hg.size,h6,h7,h8,h9⟩
theorem St.set (h:St w W B g1 g2 g3 c1 c2 c3) (p:Addr) (hp:B ≤ p.block) (u:Value):St w (W.setCell p u) B g1 g2 g3 c1 c2 c3:=by
 obtain ⟨h1,h2,h3,h4,h5,h6,h7,h8,h9⟩:=h
 exact ⟨blk_far h1 (by omega) u,blk_far h2 (by omega) u,blk_far h3 (by omega) u,h4.setCell (by omega) u,by simpa using h5,h6,h7,h8,h9⟩
end
end Go.Proofs.Ytfpdmlhknddffaa.Dk
end
section
namespace Go.Proofs.Ytfpdmlhknddffaa.Dk
open Go.RowKit Go.Proofs.YtfpdmlhknddffaaW.PrintWords Go.Proofs.YtfpdmlhknddffaaW.PrintLast Go.Proofs.YtfpdmlhknddffaaW.PrintMore
set_option linter.unusedVariables false
theorem range_told {α:Type} {F:Fence} {n:Nat} {P:Program} {g:Operand} {ps:Array Tmp} {assign body:Code} {Q:Exit→Act→World→Prop} {a:Act} {w:World}
 (hro:F.round=none) (h1:1 ≤ n) {gf:Nat} {lb:Array Value} (hg:a.eval g=.func (.func gf) #[] lb) (hFg:F.fn gf) (eg:∀ args w,(callFunc gf args).run P w=.ok (.enter gf args) w)
 {encs:α→Array Value} {N:Nat} {C:Nat→α→World→Prop} {Kp:World→World→Prop} {S:List α→Prop}
 (hseq:∀ (l:Nat) (J:List α→Nat→World→Prop) (W:World),Below w.heap.size w W→w.heap.size ≤ l→(∀ s m A B,J s m A→A.grownBy B none→J s m B) →
  (∀ pre m x W1,J pre m W1→C m x W1→pre.length < N→YieldAt F (n - 1 - 1) P l (encs x) W1 fun e W'=>e=.returned (.bool true)∧J (pre ++ [x]) W'.heap.size W'∧Kp W1 W')→(∃ m,m ≤ W.heap.size∧J [] m W) →
  CallsIn F (n - 1) P gf (#[.func (.yield l) #[] #[]] ++ lb) W fun e W'=>(∃ v,e=.returned v)∧∃ xs m,S xs∧J xs m W')
 (hKt:∀ {A B D:World},Kp A B→Kp B D→Kp A D) (hKb:∀ (W:World) (l:Nat) (o o':Obj),w.heap.size ≤ l→W.heap[l]? = some o→o.isCells=false→o.isWalk=false→Kp W (W.putObj l o')) (hps:∀ x,(encs x).size=ps.size)
 (hC:OwnFrom w.heap.size (fun (s:Nat × α) W=>C s.1 s.2 W)) (I:List α→Nat→World→Prop) (hI:OwnFrom w.heap.size (fun (s:List α × Nat) W=>I s.1 s.2 W)) (h0:I [] w.heap.size w) (a₁:α→Act)
 (hassign:∀ (l:Nat) (x:α) (W:World) (K:Act→World→Prop),K (a₁ x) W →
  assign.wpIn (F.inRound l) (n - 1 - 1) P (Exit.then K (fun _ _ _=>False)) { tmps:=(ps.zip (encs x)).foldl (fun t (p,v)=>t.setIfInBounds p v) a.tmps,defers:=[] } W)
 (hbody:∀ (l:Nat) (pre:List α) (m:Nat) (x:α) (W:World),I pre m W→C m x W→pre.length < N→body.wpIn (F.inRound l) (n - 1 - 1) P (ownPostK Kp (fun xs W'=>I xs W'.heap.size W') (fun _ _ _=>False) (pre ++ [x]) W) (a₁ x) W)
 (hdone:∀ (D:Nat) (xs:List α) (m:Nat) (W:World),w.heap.size ≤ D→S xs→I xs m W→W.heap[D]? = some (.deferred (some []))→Q .normal { a with defers:={ target:=.collected D,args:=#[] } :: a.defers } W) :
 (Code.rangeFunc g ps assign body).wpIn F n P Q a w:=by
 refine wpIn_rangeFunc fun fn hfn => ?_
 rw [hro]
 let rec_:LoopState→Option Code→Loop:=fun st pe=>{ state:=st,pending:=pe,fn,tmps:=a.tmps,params:=ps,assign,body,defers:=w.heap.size }
 obtain ⟨rec,hrec⟩:∃ rec:LoopState→Option Code→Loop,rec=rec_:=⟨_,rfl⟩
 let D:=w.heap.size
 obtain ⟨W1,hW1⟩:∃ W1,(w.alloc (.deferred (some []))).alloc (.loop (rec .ready none))=W1:=⟨_,rfl⟩
 have hIp:∀ {pre m A} (l:Nat) (o o':Obj),I pre m A→w.heap.size ≤ l→A.heap[l]? = some o→o.isCells=false→I pre m (A.putObj l o'):=fun {pre m A} l o o' h h1 h2 h3=>hI.putObj (s:=(pre,m)) o' h h1 h2 h3
 have hIa:∀ {pre m A} (o:Obj),I pre m A→I pre m (A.alloc o):=fun {pre m A} o h=>hI.alloc (s:=(pre,m)) o h
 have rdy:W1.heap[D + 1]? = some (.loop (rec .ready none)):=by
  have z:=World.alloc_heap_new (w.alloc (.deferred (some []))) (.loop (rec .ready none))
  rw [World.size_alloc] at z
  rw [← hW1]
  exact z
 have dfr:W1.heap[D]? = some (.deferred (some [])):=by
  rw [← hW1]
  exact (Below.heap_alloc _ _ _ (by simp [D])).trans (World.alloc_heap_new w _)
 have blw:Below w.heap.size w W1:=by
  rw [← hW1]
  exact ((Below.refl _ w).alloc (Nat.le_refl _) _).alloc (by simp) _
 have hI1:I [] w.heap.size W1:=by rw [← hW1];exact hIa _ (hIa _ h0)
 refine ⟨D + 1,[{ target:=.collected D,args:=#[] }],W1,{ target:=.fn (.func gf) lb,args:=#[.func (.yield (D + 1)) #[] #[]] },W1,gf,#[.func (.yield (D + 1)) #[] #[]] ++ lb,W1,?_,?_,?_,?_,fun _=>h1,?_⟩
 · rw [← hW1,hrec];exact run_enterLoop_outer _ _ _ _ _
 · simp only [resolve,hg]
   simp [go_sem]
 · intro f' hf';simp [Target.leads] at hf';subst hf';exact hFg
 · simp [invoke,go_sem,eg]
 · refine (hseq (D + 1) (fun pre m W=>I pre m W∧W.heap[D + 1]? = some (.loop (rec .ready none))∧W.heap[D]? = some (.deferred (some []))) W1 blw (by simp [D])
    (fun s m A B hs hgr=>⟨hI (s,m) A B none hs.1 hgr (fun r e=>by cases e),blk_grown hs.2.1 hgr (by simp),blk_grown hs.2.2 hgr (by simp)⟩) ?_ ⟨w.heap.size,blw.size,hI1,rdy,dfr⟩).mono ?_
   · rintro pre m x W ⟨hi,hl,hk⟩ hc hN
     have hlt:D + 1 < W.heap.size:=blk_lt hl
     have hy:=run_yield (P:=P) (args:=encs x) hl (by rw [hrec];exact hps x)
     rw [hrec] at hy
     refine ⟨fn,_,assign,body,hy,roundIn_of_wpIn hfn (hassign _ x W _ ⟨_,run_beginRound hl (by rw [hrec]),?_⟩)⟩
     obtain ⟨busy,hbusy⟩:∃ b:Obj,b=.loop { rec .ready none with state:=.busy }:=⟨_,rfl⟩
     have b1:(W.putObj (D + 1) busy).heap[D + 1]? = some busy:=World.putObj_heap_same hlt
     have b2:(W.putObj (D + 1) busy).heap[D]? = some (.deferred (some [])):=(World.putObj_heap_other (by omega)).trans hk
     have kp1:Kp W (W.putObj (D + 1) busy):=hKb _ _ _ _ (by simp [D]) hl rfl rfl
     rw [hbusy] at b1 b2 kp1
     refine wpIn_mono (hbody _ pre m x _ (hIp _ _ _ hi (by simp [D]) hl rfl) (hC.putObj (s:=(m,x)) _ hc (by simp [D]) hl rfl) hN) ?_
     rintro e a3 W3 hp
     cases e with
     | normal =>
      obtain ⟨ko,kp3,hi3⟩:=hp
      have e1:=ko.same _ _ b1 rfl
      have er:=run_endRound (P:=P) none e1
      rw [hrec] at er e1
      refine ⟨_,_,er,rfl,⟨?_,?_,?_⟩,hKt (hKt kp1 kp3) (hKb _ _ _ _ (by simp [D]) e1 rfl rfl)⟩
      · rw [show (W3.putObj (D + 1) _).heap.size=W3.heap.size by simp [World.putObj]]
        exact hIp _ _ _ hi3 (by simp [D]) e1 rfl
      · rw [hrec];exact World.putObj_heap_same (blk_lt e1)
      · exact (World.putObj_heap_other (by omega)).trans (ko.same _ _ b2 rfl)
     | ret=>exact hp.2.elim
     | exit id=>exact hp.2.elim
     | goto t=>exact hp.2.elim
     | panic ch=>exact hp.elim
     | outgrown=>exact hp.elim
   · rintro e W2 ⟨⟨v,rfl⟩,xs,m,hs,hi,hl,hk⟩
     have en:=run_endLoop (P:=P) hl (by rw [hrec];simp [rec_])
     rw [hrec] at en hl
     exact ⟨none,_,en,hdone _ xs m _ (Nat.le_refl _) hs (hIp _ _ _ hi (by simp [D]) hl rfl) ((World.putObj_heap_other (by omega)).trans hk)⟩
end Go.Proofs.Ytfpdmlhknddffaa.Dk
end
section
namespace Go.Proofs.Ytfpdmlhknddffaa.Dk
open Go.RowKit Go.Proofs.YtfpdmlhknddffaaW.PrintWords Go.Proofs.YtfpdmlhknddffaaW.PrintLast Go.Proofs.YtfpdmlhknddffaaW.PrintMore
attribute [local go_sem] field25 field25b max2_int min2_int max_two min_two max_three min_three max_four min_four
set_option linter.unusedVariables false
set_option linter.unusedSimpArgs false
def wageofficeref43_Code.l0:Nat→List Int→Int→List Int→Int→Option (List Int)
 | 0,_,_,_,_=>none
 | k + 1,x0,x7,x8,x9=>if x9 ≥ 0 then (if 0 ≤ (IntKind.u64.wrap (x9)) then (if x8.length < 140737488355328 then (wageofficeref43_Code.l0 k x0 x7 (x8 ++ [(shr .u64 x7 (IntKind.u64.wrap (x9))) % 256]) (wrap64 (x9 - 8))) else (none)) else (none)) else (if x8.length + x0.length < 140737488355328 then (some (x8 ++ x0)) else (none))
def wageofficeref43_Code.f (k:Nat) (l0:List Int) (a1:Int):Option (List Int):=(some (([((l0.length:Int) / 256) % 256,((l0.length:Int)) % 256,(a1 / 256) % 256,(a1) % 256]:List Int):List Int)).bind fun y183=>(if (strOfNums y183).size + (strOfNums l0).size ≤ 9223372036854775807 then ((wageofficeref23_Sum.f k ((strOfNums y183) ++ (strOfNums l0))).bind fun t186=>(if ([]:List Int).length < 140737488355328 then ((some (([]:List Int) ++ [82]:List Int)).bind fun y187=>(if y187.length + y183.length < 140737488355328 then (wageofficeref43_Code.l0 k l0 t186 (y187 ++ y183) 56) else (none))) else (none))) else (none))
set_option maxHeartbeats 8000000 in
set_option maxRecDepth 100000 in
theorem wageofficeref43_Code.calls (k:Nat) (A0:Option Addr) (c0:Nat) (l0:List Int) (a1:Int) (r:List Int) (w:World) (hr0:Kd.C (Kd.int .u8) w A0 l0.length l0) (hc0:l0.length ≤ c0) (h:wageofficeref43_Code.f k l0 a1=some r) :
 Calls Try.prog 56 #[.slice A0 l0.length c0,.int .i64 a1] w fun e w'=>∃ v0_:Value,e=.returned (v0_)∧Kd.R (Kd.int .u8) 5 w' w.heap.size (fun _=>True) v0_ r∧Below w.heap.size w w':=by
 have HR0:=Aside0.mk hr0
 have HC0:=Aside0.mk hc0
 clear hr0 hc0
 have HB:=Aside0.mk (Below.refl w.heap.size w)
 have H:((some (([((l0.length:Int) / 256) % 256,((l0.length:Int)) % 256,(a1 / 256) % 256,(a1) % 256]:List Int):List Int)).bind fun y183=>(if (strOfNums y183).size + (strOfNums l0).size ≤ 9223372036854775807 then ((wageofficeref23_Sum.f k ((strOfNums y183) ++ (strOfNums l0))).bind fun t186=>(if ([]:List Int).length < 140737488355328 then ((some (([]:List Int) ++ [82]:List Int)).bind fun y187=>(if y187.length + y183.length < 140737488355328 then (wageofficeref43_Code.l0 k l0 t186 (y187 ++ y183) 56) else (none))) else (none))) else (none)))=some r:=h
 clear h
 obtain ⟨y183,hy183⟩:∃ y_:List Int,y_=(([((l0.length:Int) / 256) % 256,((l0.length:Int)) % 256,(a1 / 256) % 256,(a1) % 256]:List Int)):=⟨_,rfl⟩
 replace H:(if (strOfNums y183).size + (strOfNums l0).size ≤ 9223372036854775807 then ((wageofficeref23_Sum.f k ((strOfNums y183) ++ (strOfNums l0))).bind fun t186=>(if ([]:List Int).length < 140737488355328 then ((some (([]:List Int) ++ [82]:List Int)).bind fun y187=>(if y187.length + y183.length < 140737488355328 then (wageofficeref43_Code.l0 k l0 t186 (y187 ++ y183) 56) else (none))) else (none))) else (none))=some r:=by first|(rw [hy183];with_reducible exact H)|(have H2_:=(Option.bind_some _ _).symm.trans H;rw [hy183];with_reducible exact H2_)|(have H2_:=(Option.bind_some _ _).symm.trans H;with_reducible exact H2_)|with_reducible exact H|(rw [hy183];exact H)|exact H
 have Ny183:=Aside0.mk hy183
 clear hy183
 by_cases c3:(strOfNums y183).size + (strOfNums l0).size ≤ 9223372036854775807
 · rw [if_pos c3] at H
   have c3b0:=eq_true c3
   have c3b1:decide ((strOfNums y183).size + (strOfNums l0).size ≤ 9223372036854775807)=true:=decide_eq_true c3
   try have c3b2:(9223372036854775807 < (strOfNums y183).size + (strOfNums l0).size)=False:=eq_false (Nat.not_lt.2 c3)
   replace H:=Option.bind_eq_some_iff.mp H
   obtain ⟨t186,A40,H⟩:=H
   replace H:(if ([]:List Int).length < 140737488355328 then ((some (([]:List Int) ++ [82]:List Int)).bind fun y187=>(if y187.length + y183.length < 140737488355328 then (wageofficeref43_Code.l0 k l0 t186 (y187 ++ y183) 56) else (none))) else (none))=some r:=H
   have A4:=Aside0.mk A40
   clear A40
   by_cases c5:([]:List Int).length < 140737488355328
   · rw [if_pos c5] at H
     have LMc5:=Aside0.mk c5
     clear c5
     obtain ⟨y187,hy187⟩:∃ y_:List Int,y_=(([]:List Int) ++ [82]):=⟨_,rfl⟩
     replace H:(if y187.length + y183.length < 140737488355328 then (wageofficeref43_Code.l0 k l0 t186 (y187 ++ y183) 56) else (none))=some r:=by first|(rw [hy187];with_reducible exact H)|(have H2_:=(Option.bind_some _ _).symm.trans H;rw [hy187];with_reducible exact H2_)|(have H2_:=(Option.bind_some _ _).symm.trans H;with_reducible exact H2_)|with_reducible exact H|(rw [hy187];exact H)|exact H
     have Ny187:=Aside0.mk hy187
     clear hy187
     by_cases c6:y187.length + y183.length < 140737488355328
     · rw [if_pos c6] at H
       have LMc6:=Aside0.mk c6
       clear c6
       obtain ⟨y190,hy190⟩:∃ y_:List Int,y_=(y187 ++ y183):=⟨_,rfl⟩
       replace H:(wageofficeref43_Code.l0 k l0 t186 y190 56)=some r:=by first|(rw [hy190];with_reducible exact H)|(have H2_:=(Option.bind_some _ _).symm.trans H;rw [hy190];with_reducible exact H2_)|(have H2_:=(Option.bind_some _ _).symm.trans H;with_reducible exact H2_)|with_reducible exact H|(rw [hy190];exact H)|exact H
       have Ny190:=Aside0.mk hy190
       clear hy190
       have H':=Aside0.mk H
       clear H
       go_enter Try.func56,Try.ntmps56
       go_wp2_with (first|((with_reducible refine gate_dst (N:=22) rfl ?_);refine Kd.R_lit (Kd.int .u8) _ 5 ?hg (N:=22) ?hd (xs:=([((l0.length:Int) / 256) % 256,((l0.length:Int)) % 256,(a1 / 256) % 256,(a1) % 256]:List Int)) (inner:=[.int .u8 (((l0.length:Int) / 256) % 256),.int .u8 (((l0.length:Int)) % 256),.int .u8 ((a1 / 256) % 256),.int .u8 ((a1) % 256)]) (ok:=fun _=>True) (okp:=fun _=>True) ?hr ?hp (fun _ hk=>hk) trivial (Below.refl _ _) (Nat.le_refl _) (by simp) ?_;(case hd=>rfl);(case hg=>rfl);(case hr=>first|(go_simp;done)|(go_simp;rfl));(case hp=>exact (Reps.one (show Kd.M (Kd.int .u8) _ _ _ (((l0.length:Int) / 256) % 256) [.int .u8 (((l0.length:Int) / 256) % 256)] from rfl) (Reps.one (show Kd.M (Kd.int .u8) _ _ _ (((l0.length:Int)) % 256) [.int .u8 (((l0.length:Int)) % 256)] from rfl) (Reps.one (show Kd.M (Kd.int .u8) _ _ _ ((a1 / 256) % 256) [.int .u8 ((a1 / 256) % 256)] from rfl) (Reps.one (show Kd.M (Kd.int .u8) _ _ _ ((a1) % 256) [.int .u8 ((a1) % 256)] from rfl) (Reps.none _ _))))));intro v184 w7 ho8 hb hg_ hnew_;clear hg_ hnew_;(first|rw [← Ny183.out] at ho8|(simp only [Int.reduceToNat] at ho8;rw [← Ny183.out] at ho8));have n0_:=Aside0.mk (Kd.R_lower ho8 (below_size (by repeat (first|(with_reducible first|exact HB.out|apply below_alloc|apply pw_below_drewN|apply below_drew1)|exact HB.out))));have n1_:=Aside0.mk (below_step (by repeat (first|(with_reducible first|exact HB.out|apply below_alloc|apply pw_below_drewN|apply below_drew1)|exact HB.out)) hb);clear HB;have HO185:=n0_;have HB:=n1_;clear n0_ n1_;clear hb ho8;have hcv9:=own_string (P:=Try.prog) Try.underlying22 Try.underlying5 Try.underlying9 (Kd.own_of_R HO185.out);have hcv10:=Kd.C_string (P:=Try.prog) (A:=A0) (c:=c0) Try.underlying22 Try.underlying5 Try.underlying9 (Kd.C_below HR0.out HB.out))|((with_reducible refine gate_callee (f:=64) rfl ?_);refine goesL_ (some 28) rfl rfl Try.func64 (by kernel_rfl) rfl #[.string ((strOfNums y183) ++ (strOfNums l0))] rfl (by (try simp only [List.map_toArray,List.map_cons,List.map_nil]);first|done|rfl|(simp only [List.length_drop,List.length_take];rfl)) ?_;(with_reducible refine (wageofficeref23_Sum.calls k ((strOfNums y183) ++ (strOfNums l0)) t186 _ A4.out).mono ?_);rintro e w' ⟨rfl,⟨nd,rfl⟩⟩;refine ⟨_,rfl,?_⟩)|((with_reducible refine gate_builtin (b:=.append) (xs:=#[.tmp 29,.tmp 30]) rfl ?_);at_builtin;refine Kd.R_append (Kd.int .u8) (w0:=w) w.heap.size rfl (.tmp 29) (.tmp 30) 22 5 (.int .u8 0) 1 rfl Try.underlying22 info5 rfl (by decide) (by omega) (.slice none 0 0) ([]:List Int) 82 [.int .u8 82] (fun k_=>some k_ ≠ (v184:Value).ownBlock) (fun _=>False) rfl rfl ?aP (fun _ hk=>hk.elim) ?aF ?aO ?aB ?aS ?aL ?_;(case aP=>exact rfl);(case aB=>exact (by repeat (first|(with_reducible first|exact HB.out|apply below_alloc|apply pw_below_drewN|apply below_drew1)|exact HB.out)));(case aF=>exact (fun k_ hk=>Kd.fresh' (Kd.R_lt (by (with_reducible repeat (first|apply Kd.R_alloc|apply Kd.R_drewN|apply Kd.R_drew));exact HO185.out)) k_ hk));(case aO=>exact ((Kd.R_nil _ _ _ _ (fun k_=>some k_ ≠ (v184:Value).ownBlock))));(case aS=>exact (below_size (by repeat (first|(with_reducible first|exact HB.out|apply below_alloc|apply pw_below_drewN|apply below_drew1)|exact HB.out))));(case aL=>have:=LMc5.out;omega);intro v188 w11 ho hb hg hat;rw [← Ny187.out] at ho;have n0_:=Aside0.mk (Kd.R_after (Kd.R_apart_nil (by (with_reducible repeat (first|apply Kd.R_alloc|apply Kd.R_drewN|apply Kd.R_drew));exact HO185.out)) hg hat);have n1_:=Aside0.mk (hb);have n2_:=Aside0.mk (ho);clear HO185;clear HB;have HO185:=n0_;have HB:=n1_;have HO189:=n2_;clear n0_ n1_ n2_;clear ho hb hg hat;obtain ⟨Ao13,co13,eo13⟩:=Kd.R_slice HO185.out;subst eo13)|((with_reducible refine gate_builtin (b:=.append) (xs:=#[.tmp 31,.tmp 32]) rfl ?_);at_builtin;refine Kd.R_append_rows (Kd.int .u8) (w0:=w) w.heap.size rfl (.tmp 31) (.tmp 32) 22 5 (.int .u8 0) 1 rfl Try.underlying22 info5 rfl (by decide) (by omega) v188 y187 y183 _ _ _ (fun k_=>some k_ ≠ (.slice Ao13 y183.length co13:Value).ownBlock) (fun _=>False) rfl rfl ?aO ?aR (fun _ _ h=>h) (fun _ h=>h.elim) ?aF ?aB ?aS ?aL ?_;(case aR=>repeat (first|exact (Kd.R_reads' HO185.out).2.2|(with_reducible refine Kd.C_alloc ?_ _)|(with_reducible refine Kd.C_drewN ?_ _)|(with_reducible refine Kd.C_drew ?_)));(case aB=>exact (by repeat (first|(with_reducible first|exact HB.out|apply below_alloc|apply pw_below_drewN|apply below_drew1)|exact HB.out)));(case aF=>exact (fun k_ hk=>Kd.fresh' (Kd.R_lt (by (with_reducible repeat (first|apply Kd.R_alloc|apply Kd.R_drewN|apply Kd.R_drew));exact HO185.out)) k_ hk));(case aO=>exact (by (with_reducible repeat (first|apply Kd.R_alloc|apply Kd.R_drewN|apply Kd.R_drew));exact HO189.out));(case aS=>exact (below_size (by repeat (first|(with_reducible first|exact HB.out|apply below_alloc|apply pw_below_drewN|apply below_drew1)|exact HB.out))));(case aL=>have:=LMc6.out;omega);intro v191 w12 ho hb hg hat;rw [← Ny190.out] at ho;have n0_:=Aside0.mk (Kd.R_after (ok:=(fun _=>True)) (by (with_reducible repeat (first|apply Kd.R_alloc|apply Kd.R_drewN|apply Kd.R_drew));exact HO185.out) hg hat);have n1_:=Aside0.mk (hb);have n2_:=Aside0.mk (ho);clear HO185;clear HB;clear HO189;have HO185:=n0_;have HB:=n1_;have HO192:=n2_;clear n0_ n1_ n2_;clear ho hb hg hat))
       go_loopg [8,9] k (fun kq v8 v9 w'=>∃ (x8_1:List Int) (x9_1:Int),v9=.int .i64 x9_1∧Aside0 (wageofficeref43_Code.l0 kq l0 t186 x8_1 x9_1=some r)∧Aside0 (kq ≤ k)∧Aside0 (Kd.R (Kd.int .u8) 5 w' w.heap.size (fun _=>True) v8 x8_1)∧Aside0 (Below w.heap.size w w'))
       case atStart=>exact ⟨(y190),(56),(by first|rfl|(simp;done)|(simp [*];done)),H',⟨Nat.le_refl _⟩,⟨by (with_reducible repeat (first|apply Kd.R_alloc|apply Kd.R_drewN|apply Kd.R_drew));exact Kd.R_mono HO192.out (fun _ hk=>trivial)⟩,⟨by repeat (first|(with_reducible first|exact HB.out|apply below_alloc|apply pw_below_drewN|apply below_drew1)|exact HB.out)⟩⟩
       case round =>
        clear H'
        try clear hcv1
        try clear p2
        try clear c3
        try clear c3b0
        try clear c3b1
        try clear c3b2
        try clear c5
        try clear c6
        try clear hcv9
        try clear hcv10
        obtain ⟨x8_1,x9_1,rfl,HA,HK1,HO_8,HB⟩:=hrel
        cases gk with
        | zero=>exact absurd HA.out (by simp [wageofficeref43_Code.l0])
        | succ k1 =>
         have H:=HA.out
         clear HA
         simp only [wageofficeref43_Code.l0] at H
         by_cases c14:x9_1 ≥ 0
         · rw [if_pos c14] at H
           have c14b0:decide (0 ≤ x9_1)=true:=decide_eq_true c14
           clear c14
           obtain ⟨ji15,hji15⟩:∃ j_:Int,(IntKind.u64.wrap (x9_1))=j_:=⟨_,rfl⟩
           replace H:(if 0 ≤ (ji15) then (if x8_1.length < 140737488355328 then (wageofficeref43_Code.l0 k1 l0 t186 (x8_1 ++ [(shr .u64 t186 (ji15)) % 256]) (wrap64 (x9_1 - 8))) else (none)) else (none))=some r:=by first|(rw [hji15] at H;exact H)|(simp only [hji15] at H ⊢;exact H)
           by_cases c16:0 ≤ (ji15)
           · rw [if_pos c16] at H
             have c16b0:=eq_true c16
             have c16b1:decide (0 ≤ (ji15))=true:=decide_eq_true c16
             clear c16
             obtain ⟨ji17,hji17⟩:∃ j_:Int,(shr .u64 t186 (ji15))=j_:=⟨_,rfl⟩
             replace H:(if x8_1.length < 140737488355328 then (wageofficeref43_Code.l0 k1 l0 t186 (x8_1 ++ [(ji17) % 256]) (wrap64 (x9_1 - 8))) else (none))=some r:=by first|(rw [hji17] at H;exact H)|(simp only [hji17] at H ⊢;exact H)
             have hji17_:(t186 / 2 ^ min (ji15).toNat 64)=ji17:=hji17
             have hji17z:(ji15) ≤ 64→(t186 / 2 ^ (ji15).toNat)=ji17:=shr_small hji17
             by_cases c18:x8_1.length < 140737488355328
             · rw [if_pos c18] at H
               have LMc18:=Aside0.mk c18
               clear c18
               obtain ⟨y193,hy193⟩:∃ y_:List Int,y_=(x8_1 ++ [(ji17) % 256]):=⟨_,rfl⟩
               replace H:(wageofficeref43_Code.l0 k1 l0 t186 y193 (wrap64 (x9_1 - 8)))=some r:=by first|(rw [hy193];with_reducible exact H)|(have H2_:=(Option.bind_some _ _).symm.trans H;rw [hy193];with_reducible exact H2_)|(have H2_:=(Option.bind_some _ _).symm.trans H;with_reducible exact H2_)|with_reducible exact H|(rw [hy193];exact H)|exact H
               have Ny193:=Aside0.mk hy193
               clear hy193
               have H':=Aside0.mk H
               clear H
               go_wp2_with (first|((with_reducible refine gate_builtin (b:=.append) (xs:=#[.tmp 38,.tmp 44]) rfl ?_);at_builtin;refine Kd.R_append (Kd.int .u8) (w0:=w) w.heap.size rfl (.tmp 38) (.tmp 44) 22 5 (.int .u8 0) 1 rfl Try.underlying22 info5 rfl (by decide) (by omega) u8 x8_1 ((ji17) % 256) [.int .u8 ((ji17) % 256)] (fun _=>True) (fun _=>False) rfl rfl ?aP (fun _ hk=>hk.elim) ?aF ?aO ?aB ?aS ?aL ?_;(case aP=>exact rfl);(case aB=>exact (by repeat (first|(with_reducible first|exact HB.out|apply below_alloc|apply pw_below_drewN|apply below_drew1)|exact HB.out)));(case aF=>exact (fun _ _=>trivial));(case aO=>exact (by (with_reducible repeat (first|apply Kd.R_alloc|apply Kd.R_drewN|apply Kd.R_drew));exact HO_8.out));(case aS=>exact (below_size (by repeat (first|(with_reducible first|exact HB.out|apply below_alloc|apply pw_below_drewN|apply below_drew1)|exact HB.out))));(case aL=>have:=LMc18.out;omega);intro v194 w19 ho hb hg hat;rw [← Ny193.out] at ho;have n0_:=Aside0.mk (hb);have n1_:=Aside0.mk (ho);clear HB;clear HO_8;have HB:=n0_;have HO195:=n1_;clear n0_ n1_;clear ho hb hg hat))
               go_roundg k1
               case measure=>have:=HK1.out;omega
               case rel=>exact ⟨(y193),(wrap64 (x9_1 - 8)),(by first|rfl|(simp;done)|(simp [*];done)),H',⟨by have:=HK1.out;omega⟩,⟨by (with_reducible repeat (first|apply Kd.R_alloc|apply Kd.R_drewN|apply Kd.R_drew));exact HO195.out⟩,⟨by repeat (first|(with_reducible first|exact HB.out|apply below_alloc|apply pw_below_drewN|apply below_drew1)|exact HB.out)⟩⟩
             · rw [if_neg c18] at H
               exact absurd H (by simp)
           · rw [if_neg c16] at H
             exact absurd H (by simp)
         · rw [if_neg c14] at H
           have c14b0:decide (0 ≤ x9_1)=false:=decide_eq_false c14
           clear c14
           by_cases c20:x8_1.length + l0.length < 140737488355328
           · rw [if_pos c20] at H
             have LMc20:=Aside0.mk c20
             clear c20
             obtain ⟨y196,hy196⟩:∃ y_:List Int,y_=(x8_1 ++ l0):=⟨_,rfl⟩
             replace H:(some y196)=some r:=by first|(rw [hy196];with_reducible exact H)|(have H2_:=(Option.bind_some _ _).symm.trans H;rw [hy196];with_reducible exact H2_)|(have H2_:=(Option.bind_some _ _).symm.trans H;with_reducible exact H2_)|with_reducible exact H|(rw [hy196];exact H)|exact H
             have Ny196:=Aside0.mk hy196
             clear hy196
             obtain rfl:=Option.some.inj H
             go_wp2_with (first|((with_reducible refine gate_builtin (b:=.append) (xs:=#[.tmp 46,.tmp 47]) rfl ?_);at_builtin;refine Kd.R_append_rows (Kd.int .u8) (w0:=w) w.heap.size rfl (.tmp 46) (.tmp 47) 22 5 (.int .u8 0) 1 rfl Try.underlying22 info5 rfl (by decide) (by omega) u8 x8_1 l0 _ _ _ (fun _=>True) (fun _=>False) rfl rfl ?aO ?aR (fun _ _ h=>h) (fun _ h=>h.elim) ?aF ?aB ?aS ?aL ?_;(case aR=>repeat (first|exact (Kd.C_below HR0.out HB.out)|(with_reducible refine Kd.C_alloc ?_ _)|(with_reducible refine Kd.C_drewN ?_ _)|(with_reducible refine Kd.C_drew ?_)));(case aB=>exact (by repeat (first|(with_reducible first|exact HB.out|apply below_alloc|apply pw_below_drewN|apply below_drew1)|exact HB.out)));(case aF=>exact (fun _ _=>trivial));(case aO=>exact (by (with_reducible repeat (first|apply Kd.R_alloc|apply Kd.R_drewN|apply Kd.R_drew));exact HO_8.out));(case aS=>exact (below_size (by repeat (first|(with_reducible first|exact HB.out|apply below_alloc|apply pw_below_drewN|apply below_drew1)|exact HB.out))));(case aL=>have:=LMc20.out;omega);intro v197 w21 ho hb hg hat;rw [← Ny196.out] at ho;have n0_:=Aside0.mk (hb);have n1_:=Aside0.mk (ho);clear HB;clear HO_8;have HB:=n0_;have HO198:=n1_;clear n0_ n1_;clear ho hb hg hat))
             go_ret
             exact ⟨_,by first|rfl|(simp [errW_none,errW_some] <;> rfl)|(simp [*,errW_none,errW_some] <;> rfl),by (with_reducible repeat (first|apply Kd.R_alloc|apply Kd.R_drewN|apply Kd.R_drew));exact HO198.out,by repeat (first|(with_reducible first|exact HB.out|apply below_alloc|apply pw_below_drewN|apply below_drew1)|exact HB.out)⟩
           · rw [if_neg c20] at H
             exact absurd H (by simp)
     · rw [if_neg c6] at H
       exact absurd H (by simp)
   · rw [if_neg c5] at H
     exact absurd H (by simp)
 · rw [if_neg c3] at H
   exact absurd H (by simp)
mutual
def wageofficeref43_record.j0:Nat→List Int→Int→Int→Bool→Option (List Int × Bool)
 | 0,_,_,_,_=>none
 | k + 1,x0,x1,x2,x21=>if x21=true then (some (([]:List Int),false)) else (if 0 ≤ (wrap64 (x1 + 1)) then (if (wrap64 (x1 + 1)) < (x0.length:Int) then (if 0 ≤ (wrap64 (x1 + 2)) then (if (wrap64 (x1 + 2)) < (x0.length:Int) then (if (wrap64 ((wrap64 ((wrap64 (rd x0 (wrap64 (x1 + 1)))) * 256)) + (wrap64 (rd x0 (wrap64 (x1 + 2)))))) < 1 then (wageofficeref43_record.j1 k x0 x1 x2 (wrap64 ((wrap64 ((wrap64 (rd x0 (wrap64 (x1 + 1)))) * 256)) + (wrap64 (rd x0 (wrap64 (x1 + 2)))))) true) else (if (wrap64 ((wrap64 ((wrap64 (rd x0 (wrap64 (x1 + 1)))) * 256)) + (wrap64 (rd x0 (wrap64 (x1 + 2)))))) > 4096 then (wageofficeref43_record.j1 k x0 x1 x2 (wrap64 ((wrap64 ((wrap64 (rd x0 (wrap64 (x1 + 1)))) * 256)) + (wrap64 (rd x0 (wrap64 (x1 + 2)))))) true) else (wageofficeref43_record.j1 k x0 x1 x2 (wrap64 ((wrap64 ((wrap64 (rd x0 (wrap64 (x1 + 1)))) * 256)) + (wrap64 (rd x0 (wrap64 (x1 + 2)))))) (decide ((wrap64 ((x0.length:Int) - x1)) < (wrap64 (13 + (wrap64 ((wrap64 ((wrap64 (rd x0 (wrap64 (x1 + 1)))) * 256)) + (wrap64 (rd x0 (wrap64 (x1 + 2))))))))))))) else (none)) else (none)) else (none)) else (none))
def wageofficeref43_record.j1:Nat→List Int→Int→Int→Int→Bool→Option (List Int × Bool)
 | 0,_,_,_,_,_=>none
 | k + 1,x0,x1,x2,x8,x50=>if x50=true then (some (([]:List Int),false)) else (if 0 ≤ (wrap64 (x1 + 13)) then (if (wrap64 (x1 + 13)) ≤ (wrap64 ((wrap64 (x1 + 13)) + x8)) then (if (wrap64 ((wrap64 (x1 + 13)) + x8)) ≤ (x0.length:Int) then (if ([]:List Int).length + ((x0.take ((wrap64 ((wrap64 (x1 + 13)) + x8)):Int).toNat).drop ((wrap64 (x1 + 13)):Int).toNat).length < 140737488355328 then ((some (([]:List Int) ++ ((x0.take ((wrap64 ((wrap64 (x1 + 13)) + x8)):Int).toNat).drop ((wrap64 (x1 + 13)):Int).toNat):List Int)).bind fun y203=>((wageofficeref43_Code.f k y203 x2).bind fun t206=>(if 0 ≤ x1 then (if x1 ≤ (wrap64 ((wrap64 (x1 + 13)) + x8)) then ((wageofficeref43_Same.f k t206 ((x0.take ((wrap64 ((wrap64 (x1 + 13)) + x8)):Int).toNat).drop (x1:Int).toNat)).bind fun t210=>(some (y203,t210))) else (none)) else (none)))) else (none)) else (none)) else (none)) else (none))
end
def wageofficeref43_record.f (k:Nat) (l0:List Int) (a1:Int) (a2:Int):Option (List Int × Bool):=if (wrap64 ((l0.length:Int) - a1)) < 14 then (wageofficeref43_record.j0 k l0 a1 a2 true) else (if 0 ≤ a1 then (if a1 < (l0.length:Int) then (wageofficeref43_record.j0 k l0 a1 a2 ((rd l0 a1) != 82)) else (none)) else (none))
def wageofficeref43_record.T3:Bool × List (List Nat × List Nat):=(true,[([],[]),([],[]),([1],[1]),([0,2],[0,2]),([3],[3]),([4],[4]),([5],[5]),([],[]),([],[]),([8],[8]),([7,9],[7,9]),([10],[10]),([11],[11]),([6,12],[6,12]),([13,0,1,2,3,4,5,6,7,8,9,10,11,12,13],[13])])
def wageofficeref43_record.B3:List Nat:=[0,0,2,7,15,31,63,0,0,256,896,1920,3968,8191,16383]
theorem wageofficeref43_record.tab3:rtab .any (opsOf Try.f55 3)=wageofficeref43_record.T3:=by kernel_rfl
theorem wageofficeref43_record.bits3:waitsOk wageofficeref43_record.T3.2 wageofficeref43_record.B3=true:=by kernel_rfl
def wageofficeref43_record.T8:Bool × List (List Nat × List Nat):=(true,[([],[]),([],[]),([],[]),([1,2],[1,2]),([],[]),([],[]),([],[]),([6],[6]),([],[]),([7,8],[7,8]),([4,5,9],[4,5,9]),([3,10,3],[3,10]),([0,11,0],[0]),([11,12,0,1,2,3,4,5,6,7,8,9,10,11,12],[11])])
def wageofficeref43_record.B8:List Nat:=[0,0,0,6,0,0,0,64,0,448,1008,2046,4095,8191]
theorem wageofficeref43_record.tab8:rtab .any (opsOf Try.f55 8)=wageofficeref43_record.T8:=by kernel_rfl
theorem wageofficeref43_record.bits8:waitsOk wageofficeref43_record.T8.2 wageofficeref43_record.B8=true:=by kernel_rfl
set_option maxHeartbeats 8000000 in
set_option maxRecDepth 100000 in
theorem wageofficeref43_record.calls (k:Nat) (A0:Option Addr) (c0:Nat) (l0:List Int) (a1:Int) (a2:Int) (r1:List Int) (r2:Bool) (w:World) (hr0:Kd.C (Kd.int .u8) w A0 l0.length l0) (hc0:l0.length ≤ c0) (h:wageofficeref43_record.f k l0 a1 a2=some (r1,r2)) :
 Calls Try.prog 55 #[.slice A0 l0.length c0,.int .i64 a1,.int .i64 a2] w fun e w'=>∃ v0_:Value,e=.returned (.tuple #[v0_,.bool r2])∧Kd.R (Kd.int .u8) 5 w' w.heap.size (fun _=>True) v0_ r1∧Below w.heap.size w w':=by
 have HR0:=Aside0.mk hr0
 have HC0:=Aside0.mk hc0
 clear hr0 hc0
 have HB:=Aside0.mk (Below.refl w.heap.size w)
 have H:(if (wrap64 ((l0.length:Int) - a1)) < 14 then (wageofficeref43_record.j0 k l0 a1 a2 true) else (if 0 ≤ a1 then (if a1 < (l0.length:Int) then (wageofficeref43_record.j0 k l0 a1 a2 ((rd l0 a1) != 82)) else (none)) else (none)))=some (r1,r2):=h
 clear h
 have HC4:=Aside0.mk H
 clear H
 go_enter Try.func55,Try.ntmps55
 go_upto_region 1 with (fail)
 go_cut [21] (fun v21 wc=>∃ (kq:Nat) (x21_3:Bool),v21=.bool x21_3∧Aside0 (wageofficeref43_record.j0 kq l0 a1 a2 x21_3=some (r1,r2))∧Aside0 (kq ≤ k)∧Aside0 (Below w.heap.size w wc))
 case first =>
  have H:=HC4.out
  clear HC4
  by_cases c5:(wrap64 ((l0.length:Int) - a1)) < 14
  · rw [if_pos c5] at H
    have c5b0:decide ((wrap64 ((l0.length:Int) - a1)) < 14)=true:=decide_eq_true c5
    clear c5
    (first|rw [c5b0]|(simp only [i64_w,i32_w];rw [c5b0])|skip)
    have H':=Aside0.mk H
    clear H
    go_wp2
    go_meet
    case rel=>exact ⟨_,(true),(by first|rfl|(simp;done)|(simp [*];done)),H',⟨by first|omega|exact Nat.le_refl _⟩,⟨by repeat (first|(with_reducible first|exact HB.out|apply below_alloc|apply pw_below_drewN|apply below_drew1)|exact HB.out)⟩⟩
  · rw [if_neg c5] at H
    have c5b0:decide ((wrap64 ((l0.length:Int) - a1)) < 14)=false:=decide_eq_false c5
    clear c5
    (first|rw [c5b0]|(simp only [i64_w,i32_w];rw [c5b0])|skip)
    by_cases c6:0 ≤ a1
    · rw [if_pos c6] at H
      have c6b0:decide (0 ≤ a1)=true:=decide_eq_true c6
      clear c6
      by_cases c7:a1 < (l0.length:Int)
      · rw [if_pos c7] at H
        have c7b0:decide (a1 < (l0.length:Int))=true:=decide_eq_true c7
        clear c7
        have H':=Aside0.mk H
        clear H
        have p199:0 ≤ (a1:Int):=of_decide_eq_true (by first|(with_reducible assumption)|assumption)
        have q199:a1 < (l0.length:Int):=of_decide_eq_true (by first|(with_reducible assumption)|assumption)
        obtain ⟨ad199,e199,hx199_0⟩:=Kd.at_int HR0.out a1 p199 q199
        cases e199
        replace hx199_0:=(HB.out.cell (World.block_lt_of_cell? w _ hx199_0)).trans hx199_0
        replace p199:=eq_true p199
        replace q199:=eq_true q199
        go_wp2
        go_meet
        case rel=>exact ⟨_,(((rd l0 a1) != 82)),(by first|rfl|(simp;done)|(simp [*];done)),H',⟨by first|omega|exact Nat.le_refl _⟩,⟨by repeat (first|(with_reducible first|exact HB.out|apply below_alloc|apply pw_below_drewN|apply below_drew1)|exact HB.out)⟩⟩
      · rw [if_neg c7] at H
        exact absurd H (by simp)
    · rw [if_neg c6] at H
      exact absurd H (by simp)
 case rest =>
  clear HC4
  try clear p1
  try clear q1
  try clear hx1
  try clear p2
  try clear c5
  try clear c5b0
  try clear c6
  try clear c6b0
  try clear p6
  try clear c7
  try clear c7b0
  try clear hx199_0
  try clear p199
  try clear q199
  obtain ⟨kq,x21_3,rfl,HA,HJ3,HB⟩:=hcut
  cases kq with
  | zero=>exact absurd HA.out (by simp [wageofficeref43_record.j0])
  | succ kj3 =>
   have H:=HA.out
   clear HA
   simp only [wageofficeref43_record.j0] at H
   by_cases c8:x21_3=true
   · subst c8
     have H1:(some (([]:List Int),false))=some (r1,r2):=by rw [if_pos rfl] at H;exact H
     clear H
     have H:=H1
     clear H1
     simp only [Option.some.injEq,Prod.mk.injEq] at H
     obtain ⟨rfl,rfl⟩:=H
     go_wp2
     go_ret2
     exact ⟨_,by first|rfl|(simp [errW_none,errW_some] <;> rfl)|(simp [*,errW_none,errW_some] <;> rfl),by first|exact Kd.R_nil _ _ _ _ _|exact Kd.N_nil _ _ _ _ _|exact Kd.V_nil _ _ _ _ _|exact Kd.Q_nil _ _ _ _ _|exact Kd.S_nil _ _ _ _ _,by repeat (first|(with_reducible first|exact HB.out|apply below_alloc|apply pw_below_drewN|apply below_drew1)|exact HB.out)⟩
   · replace c8:=Bool.eq_false_iff.mpr c8
     subst c8
     have H1:(if 0 ≤ (wrap64 (a1 + 1)) then (if (wrap64 (a1 + 1)) < (l0.length:Int) then (if 0 ≤ (wrap64 (a1 + 2)) then (if (wrap64 (a1 + 2)) < (l0.length:Int) then (if (wrap64 ((wrap64 ((wrap64 (rd l0 (wrap64 (a1 + 1)))) * 256)) + (wrap64 (rd l0 (wrap64 (a1 + 2)))))) < 1 then (wageofficeref43_record.j1 kj3 l0 a1 a2 (wrap64 ((wrap64 ((wrap64 (rd l0 (wrap64 (a1 + 1)))) * 256)) + (wrap64 (rd l0 (wrap64 (a1 + 2)))))) true) else (if (wrap64 ((wrap64 ((wrap64 (rd l0 (wrap64 (a1 + 1)))) * 256)) + (wrap64 (rd l0 (wrap64 (a1 + 2)))))) > 4096 then (wageofficeref43_record.j1 kj3 l0 a1 a2 (wrap64 ((wrap64 ((wrap64 (rd l0 (wrap64 (a1 + 1)))) * 256)) + (wrap64 (rd l0 (wrap64 (a1 + 2)))))) true) else (wageofficeref43_record.j1 kj3 l0 a1 a2 (wrap64 ((wrap64 ((wrap64 (rd l0 (wrap64 (a1 + 1)))) * 256)) + (wrap64 (rd l0 (wrap64 (a1 + 2)))))) (decide ((wrap64 ((l0.length:Int) - a1)) < (wrap64 (13 + (wrap64 ((wrap64 ((wrap64 (rd l0 (wrap64 (a1 + 1)))) * 256)) + (wrap64 (rd l0 (wrap64 (a1 + 2))))))))))))) else (none)) else (none)) else (none)) else (none))=some (r1,r2):=by rw [if_neg (show ¬ (false=true) by decide)] at H;exact H
     clear H
     have H:=H1
     clear H1
     obtain ⟨ji9,hji9⟩:∃ j_:Int,(wrap64 (a1 + 1))=j_:=⟨_,rfl⟩
     replace H:(if 0 ≤ (ji9) then (if (ji9) < (l0.length:Int) then (if 0 ≤ (wrap64 (a1 + 2)) then (if (wrap64 (a1 + 2)) < (l0.length:Int) then (if (wrap64 ((wrap64 ((wrap64 (rd l0 (ji9))) * 256)) + (wrap64 (rd l0 (wrap64 (a1 + 2)))))) < 1 then (wageofficeref43_record.j1 kj3 l0 a1 a2 (wrap64 ((wrap64 ((wrap64 (rd l0 (ji9))) * 256)) + (wrap64 (rd l0 (wrap64 (a1 + 2)))))) true) else (if (wrap64 ((wrap64 ((wrap64 (rd l0 (ji9))) * 256)) + (wrap64 (rd l0 (wrap64 (a1 + 2)))))) > 4096 then (wageofficeref43_record.j1 kj3 l0 a1 a2 (wrap64 ((wrap64 ((wrap64 (rd l0 (ji9))) * 256)) + (wrap64 (rd l0 (wrap64 (a1 + 2)))))) true) else (wageofficeref43_record.j1 kj3 l0 a1 a2 (wrap64 ((wrap64 ((wrap64 (rd l0 (ji9))) * 256)) + (wrap64 (rd l0 (wrap64 (a1 + 2)))))) (decide ((wrap64 ((l0.length:Int) - a1)) < (wrap64 (13 + (wrap64 ((wrap64 ((wrap64 (rd l0 (ji9))) * 256)) + (wrap64 (rd l0 (wrap64 (a1 + 2))))))))))))) else (none)) else (none)) else (none)) else (none))=some (r1,r2):=by first|(rw [hji9] at H;exact H)|(simp only [hji9] at H ⊢;exact H)
     have hji9w:(IntKind.i64.wrap (a1 + 1))=ji9:=(i64_w _).trans hji9
     by_cases c10:0 ≤ (ji9)
     · rw [if_pos c10] at H
       have c10b0:decide (0 ≤ (ji9))=true:=decide_eq_true c10
       clear c10
       by_cases c11:(ji9) < (l0.length:Int)
       · rw [if_pos c11] at H
         have c11b0:decide ((ji9) < (l0.length:Int))=true:=decide_eq_true c11
         clear c11
         obtain ⟨ji12,hji12⟩:∃ j_:Int,(wrap64 (a1 + 2))=j_:=⟨_,rfl⟩
         replace H:(if 0 ≤ (ji12) then (if (ji12) < (l0.length:Int) then (if (wrap64 ((wrap64 ((wrap64 (rd l0 (ji9))) * 256)) + (wrap64 (rd l0 (ji12))))) < 1 then (wageofficeref43_record.j1 kj3 l0 a1 a2 (wrap64 ((wrap64 ((wrap64 (rd l0 (ji9))) * 256)) + (wrap64 (rd l0 (ji12))))) true) else (if (wrap64 ((wrap64 ((wrap64 (rd l0 (ji9))) * 256)) + (wrap64 (rd l0 (ji12))))) > 4096 then (wageofficeref43_record.j1 kj3 l0 a1 a2 (wrap64 ((wrap64 ((wrap64 (rd l0 (ji9))) * 256)) + (wrap64 (rd l0 (ji12))))) true) else (wageofficeref43_record.j1 kj3 l0 a1 a2 (wrap64 ((wrap64 ((wrap64 (rd l0 (ji9))) * 256)) + (wrap64 (rd l0 (ji12))))) (decide ((wrap64 ((l0.length:Int) - a1)) < (wrap64 (13 + (wrap64 ((wrap64 ((wrap64 (rd l0 (ji9))) * 256)) + (wrap64 (rd l0 (ji12)))))))))))) else (none)) else (none))=some (r1,r2):=by first|(rw [hji12] at H;exact H)|(simp only [hji12] at H ⊢;exact H)
         have hji12w:(IntKind.i64.wrap (a1 + 2))=ji12:=(i64_w _).trans hji12
         by_cases c13:0 ≤ (ji12)
         · rw [if_pos c13] at H
           have c13b0:decide (0 ≤ (ji12))=true:=decide_eq_true c13
           clear c13
           by_cases c14:(ji12) < (l0.length:Int)
           · rw [if_pos c14] at H
             have c14b0:decide ((ji12) < (l0.length:Int))=true:=decide_eq_true c14
             clear c14
             have HC15:=Aside0.mk H
             clear H
             try go_wp2
             have n0_:=Aside0.mk (below_drew1 HB.out)
             clear HB
             have HB:=n0_
             clear n0_
             have p200:0 ≤ ((ji9):Int):=of_decide_eq_true (by first|(with_reducible assumption)|assumption)
             have q200:(ji9) < (l0.length:Int):=of_decide_eq_true (by first|(with_reducible assumption)|assumption)
             obtain ⟨ad200,e200,hx200_0⟩:=Kd.at_int HR0.out (ji9) p200 q200
             have hw200_0:=hx200_0
             cases e200
             replace hx200_0:=(HB.out.cell (World.block_lt_of_cell? w _ hx200_0)).trans hx200_0
             replace p200:=eq_true p200
             replace q200:=eq_true q200
             have p201:0 ≤ ((ji12):Int):=of_decide_eq_true (by first|(with_reducible assumption)|assumption)
             have q201:(ji12) < (l0.length:Int):=of_decide_eq_true (by first|(with_reducible assumption)|assumption)
             obtain ⟨ad201,e201,hx201_0⟩:=Kd.at_int HR0.out (ji12) p201 q201
             have hw201_0:=hx201_0
             obtain rfl:ad200=ad201:=(by injection e201)
             replace hx201_0:=(HB.out.cell (World.block_lt_of_cell? w _ hx201_0)).trans hx201_0
             replace p201:=eq_true p201
             replace q201:=eq_true q201
             refine start_ (n:=15) (S:=fun w'=>w'.cell? (ad200.add ((ji9)).toNat)=some (.int .u8 (rd l0 (ji9)))∧w'.cell? (ad200.add ((ji12)).toNat)=some (.int .u8 (rd l0 (ji12)))) (ds:=[]) #[false,false,false,false,false,false,false,false,false,false,false,false,false,false,false] (by kernel_rfl) rfl rfl ⟨((HB.out.cell (World.block_lt_of_cell? w _ hw200_0)).trans hw200_0),((HB.out.cell (World.block_lt_of_cell? w _ hw201_0)).trans hw201_0)⟩ (fun hHeld => ?_);refine with_tabW wageofficeref43_record.tab3 wageofficeref43_record.bits3 (fun HT_ HW_ => ?_)
             generalize wc.drew=w16 at HB hx200_0 hx201_0 hHeld ⊢
             refine pure_ (i:=0) (N:=some 22) (v:=?_) (a':=?_) #[true,false,false,false,false,false,false,false,false,false,false,false,false,false,false] rfl rfl (any_of HT_.out (by kernel_rfl)) (fun _ _ _ h=>h) (Or.inl ⟨by rfl,?_⟩) ?_ ?_
             rotate_left
             · intro w'
               go_simp
               with_reducible rfl
             rotate_left
             · simp only [Act.put,List.setIfInBounds_toArray,List.set_cons_zero,List.set_cons_succ,i64_w,i32_w]
               rfl
             refine pure_ (i:=1) (N:=some 23) (v:=?_) (a':=?_) #[true,true,false,false,false,false,false,false,false,false,false,false,false,false,false] rfl rfl (any_of HT_.out (by kernel_rfl)) (fun _ _ _ h=>h) (Or.inl ⟨by rfl,?_⟩) ?_ ?_
             rotate_left
             · intro w'
               go_simp
               with_reducible rfl
             rotate_left
             · simp only [Act.put,List.setIfInBounds_toArray,List.set_cons_zero,List.set_cons_succ,i64_w,i32_w]
               rfl
             refine pure_ (i:=2) (N:=some 24) (v:=?_) (a':=?_) #[true,true,true,false,false,false,false,false,false,false,false,false,false,false,false] rfl rfl (any_of HT_.out (by kernel_rfl)) (fun _ _ _ h=>h) (Or.inl ⟨by rfl,?_⟩) ?_ ?_
             rotate_left
             · intro w'
               go_simp
               with_reducible rfl
             rotate_left
             · simp only [Act.put,List.setIfInBounds_toArray,List.set_cons_zero,List.set_cons_succ,i64_w,i32_w]
               rfl
             refine pure_ (i:=3) (N:=some 25) (v:=?_) (a':=?_) #[true,true,true,true,false,false,false,false,false,false,false,false,false,false,false] rfl rfl (any_of HT_.out (by kernel_rfl)) (fun _ _ _ h=>h) (Or.inl ⟨by rfl,?_⟩) ?_ ?_
             rotate_left
             · intro w'
               go_simp
               with_reducible rfl
             rotate_left
             · simp only [Act.put,List.setIfInBounds_toArray,List.set_cons_zero,List.set_cons_succ,i64_w,i32_w]
               rfl
             refine pure_ (i:=7) (N:=some 29) (v:=?_) (a':=?_) #[true,true,true,true,false,false,false,true,false,false,false,false,false,false,false] rfl rfl (any_of HT_.out (by kernel_rfl)) (fun _ _ _ h=>h) (Or.inl ⟨by rfl,?_⟩) ?_ ?_
             rotate_left
             · intro w'
               go_simp
               with_reducible rfl
             rotate_left
             · simp only [Act.put,List.setIfInBounds_toArray,List.set_cons_zero,List.set_cons_succ,i64_w,i32_w]
               rfl
             refine pure_ (i:=8) (N:=some 30) (v:=?_) (a':=?_) #[true,true,true,true,false,false,false,true,true,false,false,false,false,false,false] rfl rfl (any_of HT_.out (by kernel_rfl)) (fun _ _ _ h=>h) (Or.inl ⟨by rfl,?_⟩) ?_ ?_
             rotate_left
             · intro w'
               go_simp
               with_reducible rfl
             rotate_left
             · simp only [Act.put,List.setIfInBounds_toArray,List.set_cons_zero,List.set_cons_succ,i64_w,i32_w]
               rfl
             refine pure_ (i:=9) (N:=some 31) (v:=?_) (a':=?_) #[true,true,true,true,false,false,false,true,true,true,false,false,false,false,false] rfl rfl (any_of HT_.out (by kernel_rfl)) (fun _ _ _ h=>h) (Or.inl ⟨by rfl,?_⟩) ?_ ?_
             rotate_left
             · intro w'
               go_simp
               with_reducible rfl
             rotate_left
             · simp only [Act.put,List.setIfInBounds_toArray,List.set_cons_zero,List.set_cons_succ,i64_w,i32_w]
               rfl
             refine pure_ (i:=10) (N:=some 32) (v:=?_) (a':=?_) #[true,true,true,true,false,false,false,true,true,true,true,false,false,false,false] rfl rfl (any_of HT_.out (by kernel_rfl)) (fun _ _ _ h=>h) (Or.inl ⟨by rfl,?_⟩) ?_ ?_
             rotate_left
             · intro w'
               go_simp
               with_reducible rfl
             rotate_left
             · simp only [Act.put,List.setIfInBounds_toArray,List.set_cons_zero,List.set_cons_succ,i64_w,i32_w]
               rfl
             refine take_ (i:=4) (N:=some 26) (v:=?_) (a':=?_) #[true,true,true,true,true,false,false,true,true,true,true,false,false,false,false] rfl rfl (take_ofW HT_.out HW_.out (by kernel_rfl)) (fun _ _ _ h=>h) (Or.inl ⟨by rfl,?_⟩) hHeld ?_ ?_
             rotate_left
             · rintro w' ⟨s0,s1⟩
               go_simp
               with_reducible rfl
             rotate_left
             · simp only [Act.put,List.setIfInBounds_toArray,List.set_cons_zero,List.set_cons_succ,i64_w,i32_w]
               rfl
             refine pure_ (i:=5) (N:=some 27) (v:=?_) (a':=?_) #[true,true,true,true,true,true,false,true,true,true,true,false,false,false,false] rfl rfl (any_of HT_.out (by kernel_rfl)) (fun _ _ _ h=>h) (Or.inl ⟨by rfl,?_⟩) ?_ ?_
             rotate_left
             · intro w'
               go_simp
               with_reducible rfl
             rotate_left
             · simp only [Act.put,List.setIfInBounds_toArray,List.set_cons_zero,List.set_cons_succ,i64_w,i32_w]
               rfl
             refine pure_ (i:=6) (N:=some 28) (v:=?_) (a':=?_) #[true,true,true,true,true,true,true,true,true,true,true,false,false,false,false] rfl rfl (any_of HT_.out (by kernel_rfl)) (fun _ _ _ h=>h) (Or.inl ⟨by rfl,?_⟩) ?_ ?_
             rotate_left
             · intro w'
               go_simp
               with_reducible rfl
             rotate_left
             · simp only [Act.put,List.setIfInBounds_toArray,List.set_cons_zero,List.set_cons_succ,i64_w,i32_w]
               rfl
             refine take_ (i:=11) (N:=some 33) (v:=?_) (a':=?_) #[true,true,true,true,true,true,true,true,true,true,true,true,false,false,false] rfl rfl (take_ofW HT_.out HW_.out (by kernel_rfl)) (fun _ _ _ h=>h) (Or.inl ⟨by rfl,?_⟩) hHeld ?_ ?_
             rotate_left
             · rintro w' ⟨s0,s1⟩
               go_simp
               with_reducible rfl
             rotate_left
             · simp only [Act.put,List.setIfInBounds_toArray,List.set_cons_zero,List.set_cons_succ,i64_w,i32_w]
               rfl
             refine pure_ (i:=12) (N:=some 34) (v:=?_) (a':=?_) #[true,true,true,true,true,true,true,true,true,true,true,true,true,false,false] rfl rfl (any_of HT_.out (by kernel_rfl)) (fun _ _ _ h=>h) (Or.inl ⟨by rfl,?_⟩) ?_ ?_
             rotate_left
             · intro w'
               go_simp
               with_reducible rfl
             rotate_left
             · simp only [Act.put,List.setIfInBounds_toArray,List.set_cons_zero,List.set_cons_succ,i64_w,i32_w]
               rfl
             refine pure_ (i:=13) (N:=some 35) (v:=?_) (a':=?_) #[true,true,true,true,true,true,true,true,true,true,true,true,true,true,false] rfl rfl (any_of HT_.out (by kernel_rfl)) (fun _ _ _ h=>h) (Or.inl ⟨by rfl,?_⟩) ?_ ?_
             rotate_left
             · intro w'
               go_simp
               with_reducible rfl
             rotate_left
             · simp only [Act.put,List.setIfInBounds_toArray,List.set_cons_zero,List.set_cons_succ,i64_w,i32_w]
               rfl
             refine pure_ (i:=14) (N:=some 8) (v:=?_) (a':=?_) #[true,true,true,true,true,true,true,true,true,true,true,true,true,true,true] rfl rfl (any_of HT_.out (by kernel_rfl)) (fun _ _ _ h=>h) (Or.inl ⟨by rfl,?_⟩) ?_ ?_
             rotate_left
             · intro w'
               go_simp
               with_reducible rfl
             rotate_left
             · simp only [Act.put,List.setIfInBounds_toArray,List.set_cons_zero,List.set_cons_succ,i64_w,i32_w]
               rfl
             refine done_ (done_of HT_.out (by kernel_rfl)) ?_
             go_upto_region 4 with (fail)
             go_cut [50] (fun v50 wc=>∃ (kq:Nat) (x50_14:Bool),v50=.bool x50_14∧Aside0 (wageofficeref43_record.j1 kq l0 a1 a2 (wrap64 ((wrap64 ((wrap64 (rd l0 (ji9))) * 256)) + (wrap64 (rd l0 (ji12))))) x50_14=some (r1,r2))∧Aside0 (kq ≤ kj3)∧Aside0 (Below w.heap.size w wc))
             case first =>
              have H:=HC15.out
              clear HC15
              by_cases c17:(wrap64 ((wrap64 ((wrap64 (rd l0 (ji9))) * 256)) + (wrap64 (rd l0 (ji12))))) < 1
              · rw [if_pos c17] at H
                have c17b0:decide ((wrap64 ((wrap64 ((wrap64 (rd l0 (ji9))) * 256)) + (wrap64 (rd l0 (ji12))))) < 1)=true:=decide_eq_true c17
                clear c17
                (first|rw [c17b0]|(simp only [i64_w,i32_w];rw [c17b0])|skip)
                have H':=Aside0.mk H
                clear H
                go_wp2
                go_meet
                case rel=>exact ⟨_,(true),(by first|rfl|(simp;done)|(simp [*];done)),H',⟨by have:=HJ3.out;first|omega|exact Nat.le_refl _⟩,⟨by repeat (first|(with_reducible first|exact HB.out|apply below_alloc|apply pw_below_drewN|apply below_drew1)|exact HB.out)⟩⟩
              · rw [if_neg c17] at H
                have c17b0:decide ((wrap64 ((wrap64 ((wrap64 (rd l0 (ji9))) * 256)) + (wrap64 (rd l0 (ji12))))) < 1)=false:=decide_eq_false c17
                clear c17
                (first|rw [c17b0]|(simp only [i64_w,i32_w];rw [c17b0])|skip)
                by_cases c18:(wrap64 ((wrap64 ((wrap64 (rd l0 (ji9))) * 256)) + (wrap64 (rd l0 (ji12))))) > 4096
                · rw [if_pos c18] at H
                  have c18b0:decide (4096 < (wrap64 ((wrap64 ((wrap64 (rd l0 (ji9))) * 256)) + (wrap64 (rd l0 (ji12))))))=true:=decide_eq_true c18
                  clear c18
                  have H':=Aside0.mk H
                  clear H
                  go_wp2
                  go_meet
                  case rel=>exact ⟨_,(true),(by first|rfl|(simp;done)|(simp [*];done)),H',⟨by have:=HJ3.out;first|omega|exact Nat.le_refl _⟩,⟨by repeat (first|(with_reducible first|exact HB.out|apply below_alloc|apply pw_below_drewN|apply below_drew1)|exact HB.out)⟩⟩
                · rw [if_neg c18] at H
                  have c18b0:decide (4096 < (wrap64 ((wrap64 ((wrap64 (rd l0 (ji9))) * 256)) + (wrap64 (rd l0 (ji12))))))=false:=decide_eq_false c18
                  clear c18
                  have H':=Aside0.mk H
                  clear H
                  go_wp2
                  go_meet
                  case rel=>exact ⟨_,(decide ((wrap64 ((l0.length:Int) - a1)) < (wrap64 (13 + (wrap64 ((wrap64 ((wrap64 (rd l0 (ji9))) * 256)) + (wrap64 (rd l0 (ji12))))))))),(by first|rfl|(simp;done)|(simp only [← hji9,← hji12] <;> (first|rfl|simp))|(simp [*];done)),H',⟨by have:=HJ3.out;first|omega|exact Nat.le_refl _⟩,⟨by repeat (first|(with_reducible first|exact HB.out|apply below_alloc|apply pw_below_drewN|apply below_drew1)|exact HB.out)⟩⟩
             case rest =>
              clear HC15
              try clear c1
              try clear p1
              try clear q1
              try clear hx1
              try clear p2
              try clear q2
              try clear hx2
              try clear c5
              try clear c5b0
              try clear c6
              try clear c6b0
              try clear p6
              try clear c7
              try clear c7b0
              try clear c8
              try clear c10
              try clear c10b0
              try clear c11
              try clear c11b0
              try clear c13
              try clear c13b0
              try clear c14
              try clear c14b0
              try clear c17
              try clear c17b0
              try clear c18
              try clear c18b0
              try clear hx199_0
              try clear hx200_0
              try clear hx201_0
              try clear p1
              try clear p199
              try clear p2
              try clear p200
              try clear p201
              try clear p6
              try clear q1
              try clear q199
              try clear q200
              try clear q201
              obtain ⟨kq,x50_14,rfl,HA,HJ14,HB⟩:=hcut
              cases kq with
              | zero=>exact absurd HA.out (by simp [wageofficeref43_record.j1])
              | succ kj14 =>
               have H:=HA.out
               clear HA
               simp only [wageofficeref43_record.j1] at H
               by_cases c19:x50_14=true
               · subst c19
                 have H1:(some (([]:List Int),false))=some (r1,r2):=by rw [if_pos rfl] at H;exact H
                 clear H
                 have H:=H1
                 clear H1
                 simp only [Option.some.injEq,Prod.mk.injEq] at H
                 obtain ⟨rfl,rfl⟩:=H
                 go_wp2
                 go_ret2
                 exact ⟨_,by first|rfl|(simp [errW_none,errW_some] <;> rfl)|(simp only [← hji9,← hji12];first|rfl|(simp [errW_none,errW_some] <;> rfl))|(simp [*,errW_none,errW_some] <;> rfl),by first|exact Kd.R_nil _ _ _ _ _|exact Kd.N_nil _ _ _ _ _|exact Kd.V_nil _ _ _ _ _|exact Kd.Q_nil _ _ _ _ _|exact Kd.S_nil _ _ _ _ _,by repeat (first|(with_reducible first|exact HB.out|apply below_alloc|apply pw_below_drewN|apply below_drew1)|exact HB.out)⟩
               · replace c19:=Bool.eq_false_iff.mpr c19
                 subst c19
                 have H1:(if 0 ≤ (wrap64 (a1 + 13)) then (if (wrap64 (a1 + 13)) ≤ (wrap64 ((wrap64 (a1 + 13)) + (wrap64 ((wrap64 ((wrap64 (rd l0 (ji9))) * 256)) + (wrap64 (rd l0 (ji12))))))) then (if (wrap64 ((wrap64 (a1 + 13)) + (wrap64 ((wrap64 ((wrap64 (rd l0 (ji9))) * 256)) + (wrap64 (rd l0 (ji12))))))) ≤ (l0.length:Int) then (if ([]:List Int).length + ((l0.take ((wrap64 ((wrap64 (a1 + 13)) + (wrap64 ((wrap64 ((wrap64 (rd l0 (ji9))) * 256)) + (wrap64 (rd l0 (ji12))))))):Int).toNat).drop ((wrap64 (a1 + 13)):Int).toNat).length < 140737488355328 then ((some (([]:List Int) ++ ((l0.take ((wrap64 ((wrap64 (a1 + 13)) + (wrap64 ((wrap64 ((wrap64 (rd l0 (ji9))) * 256)) + (wrap64 (rd l0 (ji12))))))):Int).toNat).drop ((wrap64 (a1 + 13)):Int).toNat):List Int)).bind fun y203=>((wageofficeref43_Code.f kj14 y203 a2).bind fun t206=>(if 0 ≤ a1 then (if a1 ≤ (wrap64 ((wrap64 (a1 + 13)) + (wrap64 ((wrap64 ((wrap64 (rd l0 (ji9))) * 256)) + (wrap64 (rd l0 (ji12))))))) then ((wageofficeref43_Same.f kj14 t206 ((l0.take ((wrap64 ((wrap64 (a1 + 13)) + (wrap64 ((wrap64 ((wrap64 (rd l0 (ji9))) * 256)) + (wrap64 (rd l0 (ji12))))))):Int).toNat).drop (a1:Int).toNat)).bind fun t210=>(some (y203,t210))) else (none)) else (none)))) else (none)) else (none)) else (none)) else (none))=some (r1,r2):=by rw [if_neg (show ¬ (false=true) by decide)] at H;exact H
                 clear H
                 have H:=H1
                 clear H1
                 obtain ⟨ji20,hji20⟩:∃ j_:Int,(wrap64 (a1 + 13))=j_:=⟨_,rfl⟩
                 replace H:(if 0 ≤ (ji20) then (if (ji20) ≤ (wrap64 ((ji20) + (wrap64 ((wrap64 ((wrap64 (rd l0 (ji9))) * 256)) + (wrap64 (rd l0 (ji12))))))) then (if (wrap64 ((ji20) + (wrap64 ((wrap64 ((wrap64 (rd l0 (ji9))) * 256)) + (wrap64 (rd l0 (ji12))))))) ≤ (l0.length:Int) then (if ([]:List Int).length + ((l0.take ((wrap64 ((ji20) + (wrap64 ((wrap64 ((wrap64 (rd l0 (ji9))) * 256)) + (wrap64 (rd l0 (ji12))))))):Int).toNat).drop ((ji20):Int).toNat).length < 140737488355328 then ((some (([]:List Int) ++ ((l0.take ((wrap64 ((ji20) + (wrap64 ((wrap64 ((wrap64 (rd l0 (ji9))) * 256)) + (wrap64 (rd l0 (ji12))))))):Int).toNat).drop ((ji20):Int).toNat):List Int)).bind fun y203=>((wageofficeref43_Code.f kj14 y203 a2).bind fun t206=>(if 0 ≤ a1 then (if a1 ≤ (wrap64 ((ji20) + (wrap64 ((wrap64 ((wrap64 (rd l0 (ji9))) * 256)) + (wrap64 (rd l0 (ji12))))))) then ((wageofficeref43_Same.f kj14 t206 ((l0.take ((wrap64 ((ji20) + (wrap64 ((wrap64 ((wrap64 (rd l0 (ji9))) * 256)) + (wrap64 (rd l0 (ji12))))))):Int).toNat).drop (a1:Int).toNat)).bind fun t210=>(some (y203,t210))) else (none)) else (none)))) else (none)) else (none)) else (none)) else (none))=some (r1,r2):=by first|(rw [hji20] at H;exact H)|(simp only [hji20] at H ⊢;exact H)
                 have hji20w:(IntKind.i64.wrap (a1 + 13))=ji20:=(i64_w _).trans hji20
                 by_cases c21:0 ≤ (ji20)
                 · rw [if_pos c21] at H
                   have c21b0:=eq_true c21
                   have c21b1:decide (0 ≤ (ji20))=true:=decide_eq_true c21
                   clear c21
                   by_cases c22:(ji20) ≤ (wrap64 ((ji20) + (wrap64 ((wrap64 ((wrap64 (rd l0 (ji9))) * 256)) + (wrap64 (rd l0 (ji12)))))))
                   · rw [if_pos c22] at H
                     have c22b0:=eq_true c22
                     have c22b1:decide ((ji20) ≤ (wrap64 ((ji20) + (wrap64 ((wrap64 ((wrap64 (rd l0 (ji9))) * 256)) + (wrap64 (rd l0 (ji12))))))))=true:=decide_eq_true c22
                     by_cases c23:(wrap64 ((ji20) + (wrap64 ((wrap64 ((wrap64 (rd l0 (ji9))) * 256)) + (wrap64 (rd l0 (ji12))))))) ≤ (l0.length:Int)
                     · rw [if_pos c23] at H
                       have c23b0:=eq_true c23
                       have c23b1:decide ((wrap64 ((ji20) + (wrap64 ((wrap64 ((wrap64 (rd l0 (ji9))) * 256)) + (wrap64 (rd l0 (ji12))))))) ≤ (l0.length:Int))=true:=decide_eq_true c23
                       by_cases c24:([]:List Int).length + ((l0.take ((wrap64 ((ji20) + (wrap64 ((wrap64 ((wrap64 (rd l0 (ji9))) * 256)) + (wrap64 (rd l0 (ji12))))))):Int).toNat).drop ((ji20):Int).toNat).length < 140737488355328
                       · rw [if_pos c24] at H
                         have LMc24:=Aside0.mk c24
                         clear c24
                         obtain ⟨y203,hy203⟩:∃ y_:List Int,y_=(([]:List Int) ++ ((l0.take ((wrap64 ((ji20) + (wrap64 ((wrap64 ((wrap64 (rd l0 (ji9))) * 256)) + (wrap64 (rd l0 (ji12))))))):Int).toNat).drop ((ji20):Int).toNat)):=⟨_,rfl⟩
                         replace H:((wageofficeref43_Code.f kj14 y203 a2).bind fun t206=>(if 0 ≤ a1 then (if a1 ≤ (wrap64 ((ji20) + (wrap64 ((wrap64 ((wrap64 (rd l0 (ji9))) * 256)) + (wrap64 (rd l0 (ji12))))))) then ((wageofficeref43_Same.f kj14 t206 ((l0.take ((wrap64 ((ji20) + (wrap64 ((wrap64 ((wrap64 (rd l0 (ji9))) * 256)) + (wrap64 (rd l0 (ji12))))))):Int).toNat).drop (a1:Int).toNat)).bind fun t210=>(some (y203,t210))) else (none)) else (none)))=some (r1,r2):=by first|(rw [hy203];with_reducible exact H)|(have H2_:=(Option.bind_some _ _).symm.trans H;rw [hy203];with_reducible exact H2_)|(have H2_:=(Option.bind_some _ _).symm.trans H;with_reducible exact H2_)|with_reducible exact H|(rw [hy203];exact H)|exact H
                         have Ny203:=Aside0.mk hy203
                         clear hy203
                         replace H:=Option.bind_eq_some_iff.mp H
                         obtain ⟨t206,A250,H⟩:=H
                         replace H:(if 0 ≤ a1 then (if a1 ≤ (wrap64 ((ji20) + (wrap64 ((wrap64 ((wrap64 (rd l0 (ji9))) * 256)) + (wrap64 (rd l0 (ji12))))))) then ((wageofficeref43_Same.f kj14 t206 ((l0.take ((wrap64 ((ji20) + (wrap64 ((wrap64 ((wrap64 (rd l0 (ji9))) * 256)) + (wrap64 (rd l0 (ji12))))))):Int).toNat).drop (a1:Int).toNat)).bind fun t210=>(some (y203,t210))) else (none)) else (none))=some (r1,r2):=H
                         have A25:=Aside0.mk A250
                         clear A250
                         by_cases c26:0 ≤ a1
                         · rw [if_pos c26] at H
                           have c26b0:=eq_true c26
                           have c26b1:decide (0 ≤ a1)=true:=decide_eq_true c26
                           clear c26
                           by_cases c27:a1 ≤ (wrap64 ((ji20) + (wrap64 ((wrap64 ((wrap64 (rd l0 (ji9))) * 256)) + (wrap64 (rd l0 (ji12)))))))
                           · rw [if_pos c27] at H
                             have c27b0:=eq_true c27
                             have c27b1:decide (a1 ≤ (wrap64 ((ji20) + (wrap64 ((wrap64 ((wrap64 (rd l0 (ji9))) * 256)) + (wrap64 (rd l0 (ji12))))))))=true:=decide_eq_true c27
                             have c28b0:=eq_true (of_decide_eq_true (by first|(with_reducible assumption)|assumption):(wrap64 ((ji20) + (wrap64 ((wrap64 ((wrap64 (rd l0 (ji9))) * 256)) + (wrap64 (rd l0 (ji12))))))) ≤ (l0.length:Int))
                             replace H:=Option.bind_eq_some_iff.mp H
                             obtain ⟨t210,A290,H⟩:=H
                             replace H:(some (y203,t210))=some (r1,r2):=H
                             have A29:=Aside0.mk A290
                             clear A290
                             simp only [Option.some.injEq,Prod.mk.injEq] at H
                             obtain ⟨rfl,rfl⟩:=H
                             obtain ⟨i030,hi030,_,hsz30,_⟩:=info_parts info5
                             obtain ⟨A30,hcut30,hA30,hC30⟩:=print_mid_of (P:=Try.prog) (Value.int .u8) 0 22 5 .i64 .i64 Try.underlying22 hi030 hsz30 (some ad200) c0 l0 (ji20) (wrap64 ((ji20) + (wrap64 ((wrap64 ((wrap64 (rd l0 (ji9))) * 256)) + (wrap64 (rd l0 (ji12))))))) (of_decide_eq_true (by first|(with_reducible assumption)|assumption)) (by first|omega|exact of_decide_eq_true (by first|(with_reducible assumption)|assumption)) (of_decide_eq_true (by first|(with_reducible assumption)|assumption)) HC0.out
                             have HR202:=Aside0.mk (Kd.C_of_reads (h1:=fun _=>rfl) (hA30 _ (Kd.reads_of_C HR0.out)))
                             have HC202:=Aside0.mk hC30
                             clear hA30 hC30 hi030 hsz30
                             try go_wp2_with (first|((with_reducible refine gate_builtin (b:=.append) (xs:=#[.tmp 51,.tmp 59]) rfl ?_);(try (refine gate_guard (by rfl) ?_;dsimp only));at_builtin;refine Kd.R_append_rows (Kd.int .u8) (w0:=w) w.heap.size rfl (.tmp 51) (.tmp 59) 22 5 (.int .u8 0) 1 rfl Try.underlying22 info5 rfl (by decide) (by omega) (.slice none 0 0) ([]:List Int) ((l0.take ((wrap64 ((ji20) + (wrap64 ((wrap64 ((wrap64 (rd l0 (ji9))) * 256)) + (wrap64 (rd l0 (ji12))))))):Int).toNat).drop ((ji20):Int).toNat) _ _ _ (fun _=>True) (fun _=>False) rfl rfl ?aO ?aR (fun _ _ h=>h) (fun _ h=>h.elim) ?aF ?aB ?aS ?aL ?_;(case aR=>first|(rw [← show ((l0.take ((wrap64 ((ji20) + (wrap64 ((wrap64 ((wrap64 (rd l0 (ji9))) * 256)) + (wrap64 (rd l0 (ji12))))))):Int).toNat).drop ((ji20):Int).toNat).length=((wrap64 ((ji20) + (wrap64 ((wrap64 ((wrap64 (rd l0 (ji9))) * 256)) + (wrap64 (rd l0 (ji12))))))).toNat - (ji20).toNat) from (by rw [List.length_drop,List.length_take];have h_:((wrap64 ((ji20) + (wrap64 ((wrap64 ((wrap64 (rd l0 (ji9))) * 256)) + (wrap64 (rd l0 (ji12))))))):Int) ≤ (l0.length:Int):=of_decide_eq_true (by first|(with_reducible assumption)|assumption);omega)];repeat (first|exact (Kd.C_below HR202.out HB.out)|(with_reducible refine Kd.C_alloc ?_ _)|(with_reducible refine Kd.C_drewN ?_ _)|(with_reducible refine Kd.C_drew ?_)))|(repeat (first|exact (Kd.C_below HR202.out HB.out)|(with_reducible refine Kd.C_alloc ?_ _)|(with_reducible refine Kd.C_drewN ?_ _)|(with_reducible refine Kd.C_drew ?_))));(case aB=>exact (by repeat (first|(with_reducible first|exact HB.out|apply below_alloc|apply pw_below_drewN|apply below_drew1)|exact HB.out)));(case aF=>exact (fun _ _=>trivial));(case aO=>exact ((Kd.R_nil _ _ _ _ (fun _=>True))));(case aS=>exact (below_size (by repeat (first|(with_reducible first|exact HB.out|apply below_alloc|apply pw_below_drewN|apply below_drew1)|exact HB.out))));(case aL=>have:=LMc24.out;have hlx_:=(show ((l0.take ((wrap64 ((ji20) + (wrap64 ((wrap64 ((wrap64 (rd l0 (ji9))) * 256)) + (wrap64 (rd l0 (ji12))))))):Int).toNat).drop ((ji20):Int).toNat).length=((wrap64 ((ji20) + (wrap64 ((wrap64 ((wrap64 (rd l0 (ji9))) * 256)) + (wrap64 (rd l0 (ji12))))))).toNat - (ji20).toNat) from (by rw [List.length_drop,List.length_take];have h_:((wrap64 ((ji20) + (wrap64 ((wrap64 ((wrap64 (rd l0 (ji9))) * 256)) + (wrap64 (rd l0 (ji12))))))):Int) ≤ (l0.length:Int):=of_decide_eq_true (by first|(with_reducible assumption)|assumption);omega));omega);intro v204 w31 ho hb hg hat;rw [← Ny203.out] at ho;have n0_:=Aside0.mk (hb);have n1_:=Aside0.mk (ho);clear HB;have HB:=n0_;have HO205:=n1_;clear n0_ n1_;clear ho hb hg hat))
                             have n0_:=Aside0.mk (Kd.R_drew HO205.out)
                             have n1_:=Aside0.mk (below_drew1 HB.out)
                             clear HO205
                             clear HB
                             have HO205:=n0_
                             have HB:=n1_
                             clear n0_ n1_
                             obtain ⟨i033,hi033,_,hsz33,_⟩:=info_parts info5
                             obtain ⟨A33,hcut33,hA33,hC33⟩:=print_mid_of (P:=Try.prog) (Value.int .u8) 0 22 5 .i64 .i64 Try.underlying22 hi033 hsz33 (some ad200) c0 l0 a1 (wrap64 ((ji20) + (wrap64 ((wrap64 ((wrap64 (rd l0 (ji9))) * 256)) + (wrap64 (rd l0 (ji12))))))) (of_decide_eq_true (by first|(with_reducible assumption)|assumption)) (by first|omega|exact of_decide_eq_true (by first|(with_reducible assumption)|assumption)) (of_decide_eq_true (by first|(with_reducible assumption)|assumption)) HC0.out
                             have HR209:=Aside0.mk (Kd.C_of_reads (h1:=fun _=>rfl) (hA33 _ (Kd.reads_of_C HR0.out)))
                             have HC209:=Aside0.mk hC33
                             clear hA33 hC33 hi033 hsz33
                             obtain ⟨Ao34,co34,eo34⟩:=Kd.R_slice HO205.out
                             (first|subst eo34|(injection eo34 with f1_ f2_ f3_;have f4_:=f1_.symm;have f5_:=f3_.symm;clear f1_ f2_ f3_;subst f4_;subst f5_))
                             refine start_ (n:=14) (S:=fun w'=>True) (ds:=[]) #[false,false,false,false,false,false,false,false,false,false,false,false,false,false] (by kernel_rfl) rfl rfl trivial (fun hHeld => ?_);refine with_tabW wageofficeref43_record.tab8 wageofficeref43_record.bits8 (fun HT_ HW_ => ?_)
                             generalize w31.drew=w32 at HO205 HB HR209 hHeld ⊢
                             refine pure_ (i:=0) (N:=some 61) (v:=?_) (a':=?_) #[true,false,false,false,false,false,false,false,false,false,false,false,false,false] rfl rfl (any_of HT_.out (by kernel_rfl)) (fun _ _ _ h=>h) (Or.inl ⟨by rfl,?_⟩) ?_ ?_
                             rotate_left
                             · intro w'
                               go_simp
                               with_reducible rfl
                             rotate_left
                             · simp only [Act.put,List.setIfInBounds_toArray,List.set_cons_zero,List.set_cons_succ,i64_w,i32_w]
                               rfl
                             refine pure_ (i:=1) (N:=some 62) (v:=?_) (a':=?_) #[true,true,false,false,false,false,false,false,false,false,false,false,false,false] rfl rfl (any_of HT_.out (by kernel_rfl)) (fun _ _ _ h=>h) (Or.inl ⟨by rfl,?_⟩) ?_ ?_
                             rotate_left
                             · intro w'
                               go_simp
                               with_reducible rfl
                             rotate_left
                             · simp only [Act.put,List.setIfInBounds_toArray,List.set_cons_zero,List.set_cons_succ,i64_w,i32_w]
                               rfl
                             refine pure_ (i:=2) (N:=some 63) (v:=?_) (a':=?_) #[true,true,true,false,false,false,false,false,false,false,false,false,false,false] rfl rfl (any_of HT_.out (by kernel_rfl)) (fun _ _ _ h=>h) (Or.inl ⟨by rfl,?_⟩) ?_ ?_
                             rotate_left
                             · intro w'
                               go_simp
                               with_reducible rfl
                             rotate_left
                             · simp only [Act.put,List.setIfInBounds_toArray,List.set_cons_zero,List.set_cons_succ,i64_w,i32_w]
                               rfl
                             refine pure_ (i:=4) (N:=some 65) (v:=?_) (a':=?_) #[true,true,true,false,true,false,false,false,false,false,false,false,false,false] rfl rfl (any_of HT_.out (by kernel_rfl)) (fun _ _ _ h=>h) (Or.inl ⟨by rfl,?_⟩) ?_ ?_
                             rotate_left
                             · intro w'
                               go_simp
                               with_reducible rfl
                             rotate_left
                             · simp only [Act.put,List.setIfInBounds_toArray,List.set_cons_zero,List.set_cons_succ,i64_w,i32_w]
                               rfl
                             refine pure_ (i:=5) (N:=some 66) (v:=?_) (a':=?_) #[true,true,true,false,true,true,false,false,false,false,false,false,false,false] rfl rfl (any_of HT_.out (by kernel_rfl)) (fun _ _ _ h=>h) (Or.inl ⟨by rfl,?_⟩) ?_ ?_
                             rotate_left
                             · intro w'
                               go_simp
                               with_reducible rfl
                             rotate_left
                             · simp only [Act.put,List.setIfInBounds_toArray,List.set_cons_zero,List.set_cons_succ,i64_w,i32_w]
                               rfl
                             refine pure_ (i:=6) (N:=some 67) (v:=?_) (a':=?_) #[true,true,true,false,true,true,true,false,false,false,false,false,false,false] rfl rfl (any_of HT_.out (by kernel_rfl)) (fun _ _ _ h=>h) (Or.inl ⟨by rfl,?_⟩) ?_ ?_
                             rotate_left
                             · intro w'
                               go_simp
                               with_reducible rfl
                             rotate_left
                             · simp only [Act.put,List.setIfInBounds_toArray,List.set_cons_zero,List.set_cons_succ,i64_w,i32_w]
                               rfl
                             refine pure_ (i:=7) (N:=some 68) (v:=?_) (a':=?_) #[true,true,true,false,true,true,true,true,false,false,false,false,false,false] rfl rfl (any_of HT_.out (by kernel_rfl)) (fun _ _ _ h=>h) (Or.inl ⟨by rfl,?_⟩) ?_ ?_
                             rotate_left
                             · intro w'
                               go_simp
                               with_reducible rfl
                             rotate_left
                             · simp only [Act.put,List.setIfInBounds_toArray,List.set_cons_zero,List.set_cons_succ,i64_w,i32_w]
                               rfl
                             refine pure_ (i:=8) (N:=some 69) (v:=?_) (a':=?_) #[true,true,true,false,true,true,true,true,true,false,false,false,false,false] rfl rfl (any_of HT_.out (by kernel_rfl)) (fun _ _ _ h=>h) (Or.inl ⟨by rfl,?_⟩) ?_ ?_
                             rotate_left
                             · intro w'
                               go_simp
                               with_reducible rfl
                             rotate_left
                             · simp only [Act.put,List.setIfInBounds_toArray,List.set_cons_zero,List.set_cons_succ,i64_w,i32_w]
                               rfl
                             refine pure_ (i:=9) (N:=some 70) (v:=?_) (a':=?_) #[true,true,true,false,true,true,true,true,true,true,false,false,false,false] rfl rfl (any_of HT_.out (by kernel_rfl)) (fun _ _ _ h=>h) (Or.inl ⟨by rfl,?_⟩) ?_ ?_
                             rotate_left
                             · intro w'
                               go_simp
                               with_reducible rfl
                             rotate_left
                             · simp only [Act.put,List.setIfInBounds_toArray,List.set_cons_zero,List.set_cons_succ,i64_w,i32_w]
                               rfl
                             refine pure_ (i:=10) (N:=some 71) (v:=?_) (a':=?_) #[true,true,true,false,true,true,true,true,true,true,true,false,false,false] rfl rfl (any_of HT_.out (by kernel_rfl)) (fun _ _ _ h=>h) (Or.inl ⟨by rfl,?_⟩) ?_ ?_
                             rotate_left
                             · intro w'
                               go_simp
                               with_reducible rfl
                             rotate_left
                             · simp only [Act.put,List.setIfInBounds_toArray,List.set_cons_zero,List.set_cons_succ,i64_w,i32_w]
                               rfl
                             refine one_ (i:=3) (N:=some 64) #[true,true,true,true,true,true,true,true,true,true,true,false,false,false] rfl rfl (one_of HT_.out (by kernel_rfl)) (by decide) (fun K hK => ?_)
                             refine goes_ Try.func56 (by kernel_rfl) rfl #[.slice Ao34 y203.length co34,.int .i64 a2] (by rfl) rfl rfl (by (try simp only [List.map_toArray,List.map_cons,List.map_nil]);first|done|rfl|(simp only [List.length_drop,List.length_take];rfl)) ?_
                             with_reducible refine (wageofficeref43_Code.calls kj14 _ _ y203 a2 t206 _ ?side1 ?side2 A25.out).mono ?_
                             (case side1=>repeat (first|exact (Kd.R_reads' HO205.out).2.2|(with_reducible refine Kd.C_alloc ?_ _)|(with_reducible refine Kd.C_drewN ?_ _)|(with_reducible refine Kd.C_drew ?_)))
                             (case side2=>exact (Kd.R_reads' HO205.out).2.1)
                             rintro e w35 ⟨v207,rfl,ho0,hb⟩
                             refine ⟨_,rfl,?_⟩
                             have n0_:=Aside0.mk (Kd.R_elder' (by (with_reducible repeat (first|apply Kd.R_alloc|apply Kd.R_drewN|apply Kd.R_drew));exact HO205.out) (Kd.R_base ho0) hb)
                             have n1_:=Aside0.mk (Kd.R_lower (Kd.R_new' ho0 (Kd.R_lt (by (with_reducible repeat (first|apply Kd.R_alloc|apply Kd.R_drewN|apply Kd.R_drew));exact HO205.out))) (below_size (by repeat (first|(with_reducible first|exact HB.out|apply below_alloc|apply pw_below_drewN|apply below_drew1)|exact HB.out))))
                             have n2_:=Aside0.mk (below_step (by repeat (first|(with_reducible first|exact HB.out|apply below_alloc|apply pw_below_drewN|apply below_drew1)|exact HB.out)) hb)
                             clear HO205
                             clear HB
                             have HO205:=n0_
                             have HO208:=n1_
                             have HB:=n2_
                             clear n0_ n1_ n2_
                             (try clear hb)
                             (try clear hb2)
                             (try clear hk)
                             (try clear hi)
                             (try clear ho0)
                             obtain ⟨Ao36,co36,eo36⟩:=Kd.R_slice HO208.out
                             (first|subst eo36|(injection eo36 with f1_ f2_ f3_;have f4_:=f1_.symm;have f5_:=f3_.symm;clear f1_ f2_ f3_;subst f4_;subst f5_))
                             refine hK.out _ _ trivial (fun hHeld => ?_)
                             clear hK K
                             refine norm_ (a':=?_) ?_ ?_
                             rotate_left
                             · show Act.put _ (some 64) _=_
                               simp only [Act.put,List.setIfInBounds_toArray,List.set_cons_zero,List.set_cons_succ,i64_w,i32_w]
                               rfl
                             refine one_ (i:=11) (N:=some 72) #[true,true,true,true,true,true,true,true,true,true,true,true,false,false] rfl rfl (one_of HT_.out (by kernel_rfl)) (by decide) (fun K hK => ?_)
                             refine goes_ Try.func41 (by kernel_rfl) rfl #[.slice Ao36 t206.length co36,.slice A33 ((l0.take ((wrap64 ((ji20) + (wrap64 ((wrap64 ((wrap64 (rd l0 (ji9))) * 256)) + (wrap64 (rd l0 (ji12))))))):Int).toNat).drop (a1:Int).toNat).length (c0 - a1.toNat)] (by rfl) rfl rfl (by (try simp only [List.map_toArray,List.map_cons,List.map_nil]);first|done|(rw [show ((l0.take ((wrap64 ((ji20) + (wrap64 ((wrap64 ((wrap64 (rd l0 (ji9))) * 256)) + (wrap64 (rd l0 (ji12))))))):Int).toNat).drop (a1:Int).toNat).length=((wrap64 ((ji20) + (wrap64 ((wrap64 ((wrap64 (rd l0 (ji9))) * 256)) + (wrap64 (rd l0 (ji12))))))).toNat - a1.toNat) from (by rw [List.length_drop,List.length_take];have h_:((wrap64 ((ji20) + (wrap64 ((wrap64 ((wrap64 (rd l0 (ji9))) * 256)) + (wrap64 (rd l0 (ji12))))))):Int) ≤ (l0.length:Int):=of_decide_eq_true (by first|(with_reducible assumption)|assumption);omega)] <;> rfl)|(simp only [hji12,hji20,hji9];rfl)|rfl|(simp only [List.length_drop,List.length_take];rfl)) ?_
                             with_reducible refine (wageofficeref43_Same.calls kj14 _ _ t206 _ _ ((l0.take ((wrap64 ((ji20) + (wrap64 ((wrap64 ((wrap64 (rd l0 (ji9))) * 256)) + (wrap64 (rd l0 (ji12))))))):Int).toNat).drop (a1:Int).toNat) t210 _ ?side1 ?side2 ?side3 ?side4 A29.out).mono ?_
                             (case side1=>repeat (first|exact (Kd.R_reads' HO208.out).2.2|(with_reducible refine Kd.C_alloc ?_ _)|(with_reducible refine Kd.C_drewN ?_ _)|(with_reducible refine Kd.C_drew ?_)))
                             (case side2=>exact (Kd.R_reads' HO208.out).2.1)
                             (case side3=>repeat (first|exact (Kd.C_below HR209.out HB.out)|(with_reducible refine Kd.C_alloc ?_ _)|(with_reducible refine Kd.C_drewN ?_ _)|(with_reducible refine Kd.C_drew ?_)))
                             (case side4=>exact HC209.out)
                             rintro e w' ⟨rfl,⟨nd,rfl⟩⟩
                             refine ⟨_,rfl,?_⟩
                             refine hK.out _ _ trivial (fun hHeld => ?_)
                             clear hK K
                             refine norm_ (a':=?_) ?_ ?_
                             rotate_left
                             · show Act.put _ (some 72) _=_
                               simp only [Act.put,List.setIfInBounds_toArray,List.set_cons_zero,List.set_cons_succ,i64_w,i32_w]
                               rfl
                             refine pure_ (i:=12) (N:=some 6) (v:=?_) (a':=?_) #[true,true,true,true,true,true,true,true,true,true,true,true,true,false] rfl rfl (any_of HT_.out (by kernel_rfl)) (fun _ _ _ h=>h) (Or.inl ⟨by rfl,?_⟩) ?_ ?_
                             rotate_left
                             · intro w'
                               go_simp
                               with_reducible rfl
                             rotate_left
                             · simp only [Act.put,List.setIfInBounds_toArray,List.set_cons_zero,List.set_cons_succ,i64_w,i32_w]
                               rfl
                             refine pure_ (i:=13) (N:=some 7) (v:=?_) (a':=?_) #[true,true,true,true,true,true,true,true,true,true,true,true,true,true] rfl rfl (any_of HT_.out (by kernel_rfl)) (fun _ _ _ h=>h) (Or.inl ⟨by rfl,?_⟩) ?_ ?_
                             rotate_left
                             · intro w'
                               go_simp
                               with_reducible rfl
                             rotate_left
                             · simp only [Act.put,List.setIfInBounds_toArray,List.set_cons_zero,List.set_cons_succ,i64_w,i32_w]
                               rfl
                             refine done_ (done_of HT_.out (by kernel_rfl)) ?_
                             try go_wp2
                             go_ret2
                             exact ⟨_,by first|rfl|(simp [errW_none,errW_some] <;> rfl)|(simp only [← hji9,← hji12,← hji20];first|rfl|(simp [errW_none,errW_some] <;> rfl))|(simp [*,errW_none,errW_some] <;> rfl),by (with_reducible repeat (first|apply Kd.R_alloc|apply Kd.R_drewN|apply Kd.R_drew));exact Kd.R_mono HO205.out (fun _ hk=>trivial),by repeat (first|(with_reducible first|exact HB.out|apply below_alloc|apply pw_below_drewN|apply below_drew1)|exact HB.out)⟩
                           · rw [if_neg c27] at H
                             exact absurd H (by simp)
                         · rw [if_neg c26] at H
                           exact absurd H (by simp)
                       · rw [if_neg c24] at H
                         exact absurd H (by simp)
                     · rw [if_neg c23] at H
                       exact absurd H (by simp)
                   · rw [if_neg c22] at H
                     exact absurd H (by simp)
                 · rw [if_neg c21] at H
                   exact absurd H (by simp)
           · rw [if_neg c14] at H
             exact absurd H (by simp)
         · rw [if_neg c13] at H
           exact absurd H (by simp)
       · rw [if_neg c11] at H
         exact absurd H (by simp)
     · rw [if_neg c10] at H
       exact absurd H (by simp)
end Go.Proofs.Ytfpdmlhknddffaa.Dk
end
section
namespace Go.Proofs.Ytfpdmlhknddffaa.Dk
open Go.RowKit Go.Proofs.YtfpdmlhknddffaaW.PrintWords Go.Proofs.YtfpdmlhknddffaaW.PrintLast Go.Proofs.YtfpdmlhknddffaaW.PrintMore
set_option linter.unusedVariables false
set_option linter.unusedSimpArgs false
theorem equal_calls (A0:Option Addr) (c0:Nat) (l0:List Int) (A1:Option Addr) (c1:Nat) (l1:List Int) (w:World) (h0:Kd.C (Kd.int .u8) w A0 l0.length l0) (h1:Kd.C (Kd.int .u8) w A1 l1.length l1) :
 Calls Try.prog 63 #[.slice A0 l0.length c0,.slice A1 l1.length c1] w fun e w'=>e=.returned (.bool ((strOfNums l0).toList == (strOfNums l1).toList))∧Below w.heap.size w w':=by
 have hu9:=Try.underlying9
 have hcv0:=Kd.C_string (P:=Try.prog) (A:=A0) (c:=c0) Try.underlying22 Try.underlying5 Try.underlying9 h0
 have hcv1:=Kd.C_string (P:=Try.prog) (A:=A1) (c:=c1) Try.underlying22 Try.underlying5 Try.underlying9 h1
 clear h0 h1
 go_enter Try.func63,Try.ntmps63
 go_wp2
 go_ret
 exact ⟨rfl,Below.refl _ _⟩
end Go.Proofs.Ytfpdmlhknddffaa.Dk
end
section
namespace Go.Proofs.Ytfpdmlhknddffaa.Dk
open Go.RowKit Go.Proofs.YtfpdmlhknddffaaW.PrintWords Go.Proofs.YtfpdmlhknddffaaW.PrintLast Go.Proofs.YtfpdmlhknddffaaW.PrintMore
set_option linter.unusedVariables false
def numL (size:Nat) (n:Int):List Int:=(List.range size).map fun j=>shr .u64 n (8 * ((size - 1 - j:Nat):Int)) % 256
theorem numL_length (size:Nat) (n:Int):(numL size n).length=size:=by simp [numL]
theorem numL_take (size:Nat) (n:Int) (j:Nat) (h:j < size):(numL size n).take (j + 1)=(numL size n).take j ++ [shr .u64 n (8 * ((size - 1 - j:Nat):Int)) % 256]:=by
 have hg:(numL size n)[j]? = some (shr .u64 n (8 * ((size - 1 - j:Nat):Int)) % 256):=by
  unfold numL
  rw [List.getElem?_map,List.getElem?_range h]
  rfl
 rw [List.take_add_one,hg]
 rfl
theorem number_inner (out:List Int) (size:Nat) (n:Int) (l:List Int) (i:Nat) (hs:size ≤ 8) (ho:out.length + 8 < 140737488355328) (ln:Int) {R:List Int}
 (hnext:Ev (fun k=>journal_number.l0 k (out ++ numL size n) (size:Int) l ln (wrap64 ((i:Int) + 1))) R) :
 Ev (fun k=>journal_number.l1 k out (size:Int) n (wrap64 ((size:Int) - 1)) l ln (i:Int)) R:=by
 have key:=ev_down (n:=size) (g:=fun j k=>journal_number.l1 k (out ++ (numL size n).take j) (size:Int) n ((size:Int) - 1 - (j:Int)) l ln (i:Int)) (r:=fun _=>R)
  (by
   rw [List.take_of_length_le (by rw [numL_length];exact Nat.le_refl _)]
   refine Ev.step (f:=fun k=>journal_number.l0 k (out ++ numL size n) (size:Int) l ln (wrap64 ((i:Int) + 1))) (fun k => ?_) hnext
   simp only [journal_number.l1]
   rw [if_neg (by omega)])
  (by
   intro j hj ih
   have hw:wrap64 (8 * ((size:Int) - 1 - (j:Int)))=8 * ((size - 1 - j:Nat):Int):=by unfold wrap64;omega
   have hw2:wrap64 ((size:Int) - 1 - (j:Int) - 1)=(size:Int) - 1 - ((j + 1:Nat):Int):=by unfold wrap64;omega
   refine Ev.step (f:=fun k=>journal_number.l1 k (out ++ (numL size n).take (j + 1)) (size:Int) n ((size:Int) - 1 - ((j + 1:Nat):Int)) l ln (i:Int)) (fun k => ?_) ih
   simp only [journal_number.l1]
   rw [if_pos (by omega),hw,if_pos (by omega),if_pos (by rw [List.length_append,List.length_take];omega),hw2,numL_take size n j hj,List.append_assoc])
 have h0:=key 0 (by omega)
 have e1:wrap64 ((size:Int) - 1)=(size:Int) - 1 - ((0:Nat):Int):=by unfold wrap64;omega
 rw [e1]
 simpa using h0
theorem number_ev (size:Nat) (hs:size ≤ 8) (l:List Int) (hl:l.length ≤ 100) (out:List Int) (ho:out.length + 8 * l.length + 8 < 140737488355328):Ev (fun k=>journal_number.f k out (size:Int) l) (out ++ l.flatMap (numL size)):=by
 have hfl:∀ m,m ≤ l.length→((l.take m).flatMap (numL size)).length ≤ 8 * m:=by
  intro m
  induction m with
  | zero=>intro _;simp
  | succ m ih =>
   intro hm
   rw [List.take_succ_eq_append_getElem (by omega),List.flatMap_append,List.length_append]
   have:=ih (by omega)
   simp only [List.flatMap_cons,List.flatMap_nil,List.append_nil,numL_length]
   omega
 have key:=ev_down (n:=l.length) (g:=fun i k=>journal_number.l0 k (out ++ (l.take i).flatMap (numL size)) (size:Int) l (l.length:Int) (i:Int)) (r:=fun _=>out ++ l.flatMap (numL size))
  (by
   rw [List.take_length]
   refine Ev.step (f:=fun _=>some (out ++ l.flatMap (numL size))) (fun k => ?_) (Ev.now _)
   simp only [journal_number.l0]
   rw [if_neg (by omega)])
  (by
   intro i hi ih
   have h8:=hfl i (by omega)
   refine Ev.step (f:=fun k=>journal_number.l1 k (out ++ (l.take i).flatMap (numL size)) (size:Int) (rd l (i:Int)) (wrap64 ((size:Int) - 1)) l (l.length:Int) (i:Int)) (fun k => ?_) ?_
   · simp only [journal_number.l0]
     rw [if_pos (by omega),if_pos (by omega),if_pos (by omega)]
   · refine number_inner _ size _ l i hs (by rw [List.length_append];omega) _ ?_
     have e:wrap64 ((i:Int) + 1)=((i + 1:Nat):Int):=wrap_succ (n:=l.length) hi (by omega)
     rw [e,rd_nat hi]
     have e2:(out ++ (l.take i).flatMap (numL size)) ++ numL size l[i]=out ++ (l.take (i + 1)).flatMap (numL size):=by
      rw [List.take_succ_eq_append_getElem hi,List.flatMap_append,List.append_assoc]
      simp
     rw [e2]
     exact ih)
 have h0:=key 0 (by omega)
 simpa [journal_number.f] using h0
def headL (r:List Int) (k:Int):List Int:=numL 2 (IntKind.u64.wrap (r.length:Int)) ++ numL 2 (IntKind.u64.wrap (Go.bits .and .i64 k 65535))
def encL (r:List Int) (k:Int):List Int:=[82] ++ headL r k ++ numL 8 (sumS (strOfNums (headL r k) ++ strOfNums r)) ++ r
theorem headL_length (r:List Int) (k:Int):(headL r k).length=4:=by simp [headL,numL_length]
theorem encL_length (r:List Int) (k:Int):(encL r k).length=13 + r.length:=by simp [encL,headL_length,numL_length];omega
theorem encode_ev (r:List Int) (k0:Int) (hr:r.length ≤ 1000000000):Ev (fun k=>journal_encode.f k r k0) (encL r k0):=by
 have hs1:(strOfNums (headL r k0) ++ strOfNums r).size=4 + r.length:=by
  rw [ByteArray.size_append,strOfNums_size,strOfNums_size,headL_length]
 unfold journal_encode.f
 refine Ev.bind (a:=headL r k0) (ev_eq (number_ev 2 (by decide) _ (by simp) [] (by simp)) (by simp [headL])) ?_
 have e1:(strOfNums (headL r k0)).size + (strOfNums r).size ≤ 9223372036854775807:=by rw [strOfNums_size,strOfNums_size,headL_length];omega
 have e2:digest_Sum.f (strOfNums (headL r k0) ++ strOfNums r)=some (sumS (strOfNums (headL r k0) ++ strOfNums r)):=by
  unfold digest_Sum.f
  rw [if_pos (by omega)]
 refine Ev.congr (f:=fun k=>(journal_number.f k ([82] ++ headL r k0) 8 [sumS (strOfNums (headL r k0) ++ strOfNums r)]).bind fun t=>if t.length + r.length < 140737488355328 then some (t ++ r) else none) (fun k => ?_) ?_
 · rw [if_pos e1,e2]
   simp only [Option.bind_some]
   rw [if_pos (by simp [headL_length])]
 · refine Ev.bind (f:=fun k t=>if t.length + r.length < 140737488355328 then some (t ++ r) else none) (number_ev 8 (by decide) [sumS (strOfNums (headL r k0) ++ strOfNums r)] (by simp) ([82] ++ headL r k0) (by simp [headL_length])) ?_
   refine Ev.congr (f:=fun _=>some (encL r k0)) (fun k => ?_) (Ev.now _)
   rw [if_pos (by simp [headL_length,numL_length];omega)]
   simp [encL]
end Go.Proofs.Ytfpdmlhknddffaa.Dk
end
section
namespace Go.Proofs.Ytfpdmlhknddffaa.Dk
open Go.RowKit Go.Proofs.YtfpdmlhknddffaaW.PrintWords Go.Proofs.YtfpdmlhknddffaaW.PrintLast Go.Proofs.YtfpdmlhknddffaaW.PrintMore
set_option linter.unusedVariables false
theorem wraps_i64 (n:Int) (h₀:0 ≤ n) (h₁:n < 2 ^ 63):IntKind.i64.wrap n=n:=by rw [IntKind.wrap_i64];omega
theorem i64_or8 {x y:Int} (hx₀:0 ≤ x) (hx:x % 256=0) (hx₁:x < 9223372036854775808) (h₀:0 ≤ y) (h₁:y < 256):bits .or .i64 x y=x + y :=
 bits_join .i64 63 (by decide) wraps_i64 8 x y hx₀ hx hx₁ h₀ h₁ (by omega)
def numAt (b:List Int) (at_:Nat):Int:=bits .or .i64 (IntKind.i64.wrap (IntKind.i64.wrap (b.getD (at_ + 1) 0) * 256)) (IntKind.i64.wrap (b.getD (at_ + 2) 0))
theorem numAt_eq {b:List Int} {at_:Nat} (h1:0 ≤ b.getD (at_ + 1) 0∧b.getD (at_ + 1) 0 ≤ 255) (h2:0 ≤ b.getD (at_ + 2) 0∧b.getD (at_ + 2) 0 ≤ 255):numAt b at_=256 * b.getD (at_ + 1) 0 + b.getD (at_ + 2) 0:=by
 obtain ⟨x,hx⟩:∃ x,x=b.getD (at_ + 1) 0:=⟨_,rfl⟩
 obtain ⟨y,hy⟩:∃ y,y=b.getD (at_ + 2) 0:=⟨_,rfl⟩
 unfold numAt
 rw [← hx] at h1 ⊢
 rw [← hy] at h2 ⊢
 rw [wraps_i64 x h1.1 (by omega),wraps_i64 (x * 256) (by omega) (by omega),wraps_i64 y h2.1 (by omega),i64_or8 (by omega) (by omega) (by omega) h2.1 (by omega)]
 omega
theorem cut_seg {A:Option Addr} {c:Nat} {b:List Int} {w:World} (h:Kd.C (Kd.int .u8) w A b.length b) (hc:b.length ≤ c) (lo hi:Nat) (loI hiI:Int) (e0:loI=lo) (e1:hiI=hi) (h1:lo ≤ hi) (h2:hi ≤ b.length) :
 ∃ dp,(∀ W:World,(Instr.slice 22 (.slice A b.length c) (some (.int .i64 loI)) (some (.int .i64 hiI)) none).run Try.prog W=.ok (.slice dp ((b.take hi).drop lo).length (c - lo)) W)∧Kd.C (Kd.int .u8) w dp ((b.take hi).drop lo).length ((b.take hi).drop lo)∧((b.take hi).drop lo).length ≤ c - lo:=by
 subst e0;subst e1
 obtain ⟨i5,hi5,hz5,hs5,hy5⟩:=info_parts info5
 have hl:((b.take hi).drop lo).length=hi - lo:=by rw [List.length_drop,List.length_take];omega
 have hcut:=cut_mid (P:=Try.prog) 22 5 .i64 .i64 Try.underlying22 hi5 1 hs5 A b.length c (lo:Int) (hi:Int) (by omega) (by omega) (by omega) hc
 have hmid:=Kd.C_mid (lo:=lo) (hi:=hi) (c:=c) h h1 h2 hc
 simp only [Int.toNat_natCast] at hcut
 rw [← hl] at hcut
 exact ⟨_,hcut,hmid,by rw [hl];omega⟩
end Go.Proofs.Ytfpdmlhknddffaa.Dk
end
section
namespace Go.Proofs.Ytfpdmlhknddffaa.Dk
open Go.RowKit Go.Proofs.YtfpdmlhknddffaaW.PrintWords Go.Proofs.YtfpdmlhknddffaaW.PrintLast Go.Proofs.YtfpdmlhknddffaaW.PrintMore
set_option linter.unusedVariables false
set_option linter.unusedSimpArgs false
def recEq (b:List Int) (k at_ n:Nat):Bool:=(strOfNums (encL ((b.take (at_ + 13 + n)).drop (at_ + 13)) (k:Int))).toList == (strOfNums ((b.take (at_ + 13 + n)).drop at_)).toList
def recAt (b:List Int) (k at_:Nat):Option (List Int × Nat) :=
 if at_ + 13 < b.length∧0 < (numAt b at_).toNat∧(numAt b at_).toNat ≤ 4096∧at_ + 13 + (numAt b at_).toNat ≤ b.length∧recEq b k at_ (numAt b at_).toNat=true
 then some ((b.take (at_ + 13 + (numAt b at_).toNat)).drop (at_ + 13),at_ + 13 + (numAt b at_).toNat) else none
def IsRecs (b:List Int):Nat→Nat→List (List Int × Nat)→Prop
 | k,at_,[]=>recAt b k at_=none
 | k,at_,x :: L=>recAt b k at_=some x∧IsRecs b (k + 1) x.2 L
def recsF:Nat→List Int→Nat→Nat→List (List Int × Nat)
 | 0,_,_,_=>[]
 | f + 1,b,k,at_=>match recAt b k at_ with
  | none=>[]
  | some x=>x :: recsF f b (k + 1) x.2
def recs (b:List Int):List (List Int × Nat):=recsF (b.length + 1) b 0 0
theorem recAt_lt {b:List Int} {k at_:Nat} {x:List Int × Nat} (h:recAt b k at_=some x):at_ + 14 ≤ x.2∧x.2 ≤ b.length∧x.1.length=x.2 - (at_ + 13)∧x.1.length ≤ 4096:=by
 unfold recAt at h
 split at h
 · injection h with h
   subst h
   simp
   omega
 · cases h
theorem isRecs_recsF (b:List Int):∀ (f k at_:Nat),b.length < at_ + f→IsRecs b k at_ (recsF f b k at_):=by
 intro f
 induction f with
 | zero =>
  intro k at_ h
  show recAt b k at_=none
  unfold recAt
  rw [if_neg (by omega)]
 | succ f ih =>
  intro k at_ h
  unfold recsF
  cases hr:recAt b k at_ with
  | none=>exact hr
  | some x=>exact ⟨hr,ih _ _ (by have:=recAt_lt hr;omega)⟩
theorem isRecs_uniq (b:List Int):∀ (L M:List (List Int × Nat)) (k at_:Nat),IsRecs b k at_ L→IsRecs b k at_ M→L=M:=by
 intro L
 induction L with
 | nil =>
  intro M k at_ h1 h2
  cases M with
  | nil=>rfl
  | cons y M=>have h1':recAt b k at_=none:=h1;rw [h2.1] at h1';cases h1'
 | cons x L ih =>
  intro M k at_ h1 h2
  cases M with
  | nil=>have h2':recAt b k at_=none:=h2;rw [h1.1] at h2';cases h2'
  | cons y M =>
   have e:=h1.1.symm.trans h2.1
   injection e with e
   subst e
   rw [ih M _ _ h1.2 h2.2]
theorem isRecs_recs (b:List Int):IsRecs b 0 0 (recs b):=isRecs_recsF b _ 0 0 (by omega)
abbrev RecV:=Value × List Int × Nat
def recEncs (x:RecV):Array Value:=#[x.1,.int .i64 (x.2.2:Int)]
def RecC (base:Nat) (m:Nat) (x:RecV) (W:World):Prop:=Kd.R (Kd.int .u8) 5 W base (fun _=>True) x.1 x.2.1∧(∀ k,x.1.ownBlock=some k→m ≤ k)∧x.2.1.length ≤ 4096
def RecKp (n0 Bx:Nat) (W W':World):Prop:=Below n0 W W'∧W'.heap[Bx]? = W.heap[Bx]?
def RecS (b:List Int) (xs:List RecV):Prop:=xs.map (·.2)=recs b
theorem grown_of_below {W W':World} (h:Below W.heap.size W W'):W.grownBy W' none:=⟨h.os,h.tape,h.output,h.size,fun k hk _=>h.block k hk⟩
theorem C_under {k:IntKind} {w w1:World} {n0:Nat} {A:Option Addr} {n:Nat} {xs:List Int} (h:Kd.C (Kd.int k) w A n xs) (hb:Below n0 w w1) (hA:∀ ad,A=some ad→ad.block < n0):Kd.C (Kd.int k) w1 A n xs:=by
 refine ⟨h.1,h.2.1,fun hp => ?_⟩
 obtain ⟨ad,e,hc⟩:=h.2.2 hp
 refine ⟨ad,e,fun j p hj => ?_⟩
 obtain ⟨c,hc1,hc2,hc3⟩:=hc j p hj
 refine ⟨c,hc1,hc2,fun i u hu => ?_⟩
 have hl:(ad.add (j * (Kd.int k).sz + i)).block < n0:=by
  have:(ad.add (j * (Kd.int k).sz + i)).block=ad.block:=by unfold Addr.add;split <;> rfl
  rw [this];exact hA ad e
 exact (hb.cell hl).trans (hc3 i u hu)
theorem own_all {W:World} {base:Nat} {e:TypeId} {size n:Nat} {v:Value} {xs:List Value} (h:W.ownsRow base e size v n xs) (hn:0 < n):∃ g cap cur,v=.slice (some ⟨g,0,none⟩) n cap∧base ≤ g∧W.heap[g]? = some (.cells (cur:List Value).toArray e (0,0))∧n ≤ cap∧cap ≤ maxLen∧cur.length=cap * size:=by
 rcases h.2 with ⟨_,h3⟩|⟨g',cap',cur,h3,h4,h5,h6,h7,h8,h9⟩
 · omega
 · exact ⟨g',cap',cur.toList,h3,h4,by simpa using h5,h6,h7,by simpa using h8⟩
theorem R_filled {W:World} {base g cap:Nat} {cur:List Value} {xs:List Int} (hg:W.heap[g]? = some (.cells (splice cur 0 (xs.map (Value.int .u8))).toArray 5 (0,0))) (hb:base ≤ g) (h1:xs.length ≤ cap) (h2:cap ≤ maxLen) (h3:cur.length=cap * 1) :
 Kd.R (Kd.int .u8) 5 W base (fun _=>True) (.slice (some ⟨g,0,none⟩) xs.length cap) xs:=by
 refine Kd.R_of_own (enc:=Value.int .u8) ⟨by simp [encs],.inr ⟨g,cap,_,rfl,hb,hg,h1,h2,?_,?_⟩⟩ (fun _ _=>trivial)
 · simp [splice]
   omega
 · simp [splice,encs]
theorem roundIn_any {P:Program} {m n l:Nat} {f:FuncId} {tmps:Array Value} {assign body:Code} {w:World} {R:Ending→World→Prop} (h:RoundIn Fence.wide m P l f tmps assign body w R):RoundIn Fence.wide n P l f tmps assign body w R:=⟨h.1,fun c cs _=>h.2 c cs (room_wide _)⟩
end Go.Proofs.Ytfpdmlhknddffaa.Dk
end
