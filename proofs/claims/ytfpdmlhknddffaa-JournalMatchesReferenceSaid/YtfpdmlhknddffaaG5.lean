/- Contracts of functions, and plain laws, that the statement's proof uses; printed and joined by programs of this session. -/
import Derived.Test.YtfpdmlhknddffaaG4
import Derived.Lib.Bytes
section
namespace Go.Proofs.Ytfpdmlhknddffaa.Dk
open Go.RowKit Go.Proofs.YtfpdmlhknddffaaW.PrintWords Go.Proofs.YtfpdmlhknddffaaW.PrintLast Go.Proofs.YtfpdmlhknddffaaW.PrintMore
set_option linter.unusedVariables false
set_option linter.unusedSimpArgs false
set_option maxHeartbeats 1000000 in
theorem Append_arg (A0_0:Option Addr) (c0_0:Nat) (l0_0:List Int) (A0_1:Option Addr) (c0_1:Nat) (l0_1:List (S45)) (A1:Option Addr) (c1 n:Nat) (w:World) (hr0_0:Kd.C (Kd.int .u8) w A0_0 l0_0.length l0_0) (hc0_0:l0_0.length ≤ c0_0) (hr0_1:Kd.C k45 w A0_1 l0_1.length l0_1) (hc0_1:l0_1.length ≤ c0_1)
 (b:Bool) (Hok0:Hid (readOk l0_0 l0_1 0 0=b)) (hb:b=true→n=0) :
 Calls Try.prog 34 #[.agg #[.slice A0_0 l0_0.length c0_0,.slice A0_1 l0_1.length c0_1],.slice A1 n c1] w fun e w'=>e=.returned (.tuple #[.agg #[.slice none 0 0,.slice none 0 0],.int .i64 1])∧Below w.heap.size w w':=by
 have hu25:=Try.underlying25
 have fin:∀ (g2:Nat) (w3:World),w3.heap[g2]? = some (.cells #[.slice none 0 0,.slice none 0 0] 25 (0,0))→w.heap.size ≤ g2→Below w.heap.size w w3→∃ w4,w4=(w3.setCell ⟨g2,0,none⟩ (.slice none 0 0)).setCell ⟨g2,1,none⟩ (.slice none 0 0)∧w4.cell? ⟨g2,0,none⟩=some (.slice none 0 0)∧w4.cell? ⟨g2,1,none⟩=some (.slice none 0 0)∧Below w.heap.size w w4:=by
  intro g2 w3 h hg hB
  have hr2:=two_cells h (.slice none 0 0) (.slice none 0 0)
  exact ⟨_,rfl,(blk_cell hr2 0).trans rfl,(blk_cell hr2 1).trans rfl,(hB.setCell (p:=⟨g2,0,none⟩) hg _).setCell (p:=⟨g2,1,none⟩) hg _⟩
 have Hfin:=Lib.hid fin
 clear fin
 have Hrec:Hid (journal_Records.f l0_0 l0_1=some (([]:List (List Int)),0))∨True:=.inr trivial
 clear Hrec
 cases b
 · have Hhb:=Lib.hid hb
   clear hb
   go_enter Try.func34,Try.ntmps34
   go_wp2_with ((first|((with_reducible refine gate_dst (N:=2) rfl ?_);(refine box_event ?hg (N:=2) ?hd (cs:=#[.slice A0_0 l0_0.length c0_0,.slice A0_1 l0_1.length c0_1]) (t:=25) ?hr ?_);(case hd=>rfl);(case hg=>rfl);(case hr=>first|(go_simp;done)|(go_simp;rfl));intro g2 hg2 w1 hb1 hB1;have Hg2:Hid (w.heap.size ≤ g2):=(Lib.hid (by rw [hg2];exact Nat.le_refl _));have HB1:=Lib.hid hB1;have Hb1:=Lib.hid hb1;clear hb1 hB1 hg2)|((with_reducible refine gate_dst (N:=4) rfl ?_);(refine box_event ?hg (N:=4) ?hd (cs:=#[.slice none 0 0,.slice none 0 0]) (t:=25) ?hr ?_);(case hd=>rfl);(case hg=>rfl);(case hr=>first|(go_simp;done)|(go_simp;rfl));intro g4 hg4 w2 hb2 hB2;have Hg4:Hid (w.heap.size ≤ g4∧g2 < g4):=(Lib.hid (by rw [hg4];exact ⟨HB1.out.size,blk_lt Hb1.out⟩));have HB2:=Lib.hid (below_then HB1.out HB1.out.size hB2);have Hb2:=Lib.hid hb2;have Hb1:=Lib.hid (blk_below Hb1.out hB2);have k0:=(blk_cell Hb1.out 0).trans rfl;have k1:=(blk_cell Hb1.out 1).trans rfl;clear hb2 hB2 hg4)|(go_at_call 23;refine (disk_Read.calls A0_0 c0_0 l0_0 A0_1 c0_1 l0_1 0 0 _ _ w2 (Kd.C_below hr0_0 HB2.out) hc0_0 (Kd.C_below hr0_1 HB2.out) hc0_1 rfl).mono ?_;rintro e w3 ⟨v3,rfl,hr3,hB3⟩;obtain ⟨A3,c3,rfl⟩:=Kd.R_slice hr3;rw [Hok0.out];have HB3:=Lib.hid (below_then HB2.out HB2.out.size hB3);have Hb1:=Lib.hid (blk_below Hb1.out hB3);have Hb2:=Lib.hid (blk_below Hb2.out hB3);have k0:=(blk_cell Hb1.out 0).trans rfl;have k1:=(blk_cell Hb1.out 1).trans rfl;have k2:=(blk_cell Hb2.out 0).trans rfl;have k3:=(blk_cell Hb2.out 1).trans rfl;have kf2:=blk_frozen Hb2.out 0;have kf3:=blk_frozen Hb2.out 1;clear hr3 hB3)|(go_at_call 36;refine (journal_Records.calls A0_0 c0_0 l0_0 A0_1 c0_1 l0_1 _ _ w3 (Kd.C_below hr0_0 HB3.out) hc0_0 (Kd.C_below hr0_1 HB3.out) hc0_1 Hrec.out).mono ?_;rintro e w4 ⟨v4,rfl,hr4,hB4⟩;obtain ⟨A4,c4,rfl⟩:=Kd.S_slice hr4;rw [Hkk.out];have HB4:=Lib.hid (below_then HB3.out HB3.out.size hB4);have Hb1:=Lib.hid (blk_below Hb1.out hB4);have Hb2:=Lib.hid (blk_below Hb2.out hB4);have k0:=(blk_cell Hb1.out 0).trans rfl;have k1:=(blk_cell Hb1.out 1).trans rfl;have k2:=(blk_cell Hb2.out 0).trans rfl;have k3:=(blk_cell Hb2.out 1).trans rfl;have kf2:=blk_frozen Hb2.out 0;have kf3:=blk_frozen Hb2.out 1;clear hr4 hB4)))
   obtain ⟨w4,hw4,q0,q1,hB4⟩:=Hfin.out g4 w3 Hb2.out Hg4.out.1 HB3.out
   rw [← hw4]
   clear hw4 k0 k1 k2 k3 kf2 kf3
   exact bodyPost_ret (v:=.tuple #[.agg #[.slice none 0 0,.slice none 0 0],.int .i64 1]) (by simp [results,Try.results34,go_sem,q0,q1]) rfl ⟨rfl,hB4⟩
 · obtain rfl:n=0:=hb rfl
   clear hb
   go_enter Try.func34,Try.ntmps34
   go_wp2_with ((first|((with_reducible refine gate_dst (N:=2) rfl ?_);(refine box_event ?hg (N:=2) ?hd (cs:=#[.slice A0_0 l0_0.length c0_0,.slice A0_1 l0_1.length c0_1]) (t:=25) ?hr ?_);(case hd=>rfl);(case hg=>rfl);(case hr=>first|(go_simp;done)|(go_simp;rfl));intro g2 hg2 w1 hb1 hB1;have Hg2:Hid (w.heap.size ≤ g2):=(Lib.hid (by rw [hg2];exact Nat.le_refl _));have HB1:=Lib.hid hB1;have Hb1:=Lib.hid hb1;clear hb1 hB1 hg2)|((with_reducible refine gate_dst (N:=4) rfl ?_);(refine box_event ?hg (N:=4) ?hd (cs:=#[.slice none 0 0,.slice none 0 0]) (t:=25) ?hr ?_);(case hd=>rfl);(case hg=>rfl);(case hr=>first|(go_simp;done)|(go_simp;rfl));intro g4 hg4 w2 hb2 hB2;have Hg4:Hid (w.heap.size ≤ g4∧g2 < g4):=(Lib.hid (by rw [hg4];exact ⟨HB1.out.size,blk_lt Hb1.out⟩));have HB2:=Lib.hid (below_then HB1.out HB1.out.size hB2);have Hb2:=Lib.hid hb2;have Hb1:=Lib.hid (blk_below Hb1.out hB2);have k0:=(blk_cell Hb1.out 0).trans rfl;have k1:=(blk_cell Hb1.out 1).trans rfl;clear hb2 hB2 hg4)|(go_at_call 23;refine (disk_Read.calls A0_0 c0_0 l0_0 A0_1 c0_1 l0_1 0 0 _ _ w2 (Kd.C_below hr0_0 HB2.out) hc0_0 (Kd.C_below hr0_1 HB2.out) hc0_1 rfl).mono ?_;rintro e w3 ⟨v3,rfl,hr3,hB3⟩;obtain ⟨A3,c3,rfl⟩:=Kd.R_slice hr3;rw [Hok0.out];have HB3:=Lib.hid (below_then HB2.out HB2.out.size hB3);have Hb1:=Lib.hid (blk_below Hb1.out hB3);have Hb2:=Lib.hid (blk_below Hb2.out hB3);have k0:=(blk_cell Hb1.out 0).trans rfl;have k1:=(blk_cell Hb1.out 1).trans rfl;have k2:=(blk_cell Hb2.out 0).trans rfl;have k3:=(blk_cell Hb2.out 1).trans rfl;have kf2:=blk_frozen Hb2.out 0;have kf3:=blk_frozen Hb2.out 1;clear hr3 hB3)|(go_at_call 36;refine (journal_Records.calls A0_0 c0_0 l0_0 A0_1 c0_1 l0_1 _ _ w3 (Kd.C_below hr0_0 HB3.out) hc0_0 (Kd.C_below hr0_1 HB3.out) hc0_1 Hrec.out).mono ?_;rintro e w4 ⟨v4,rfl,hr4,hB4⟩;obtain ⟨A4,c4,rfl⟩:=Kd.S_slice hr4;rw [Hkk.out];have HB4:=Lib.hid (below_then HB3.out HB3.out.size hB4);have Hb1:=Lib.hid (blk_below Hb1.out hB4);have Hb2:=Lib.hid (blk_below Hb2.out hB4);have k0:=(blk_cell Hb1.out 0).trans rfl;have k1:=(blk_cell Hb1.out 1).trans rfl;have k2:=(blk_cell Hb2.out 0).trans rfl;have k3:=(blk_cell Hb2.out 1).trans rfl;have kf2:=blk_frozen Hb2.out 0;have kf3:=blk_frozen Hb2.out 1;clear hr4 hB4)))
   obtain ⟨w4,hw4,q0,q1,hB4⟩:=Hfin.out g4 w3 Hb2.out Hg4.out.1 HB3.out
   rw [← hw4]
   clear hw4 k0 k1 k2 k3 kf2 kf3
   exact bodyPost_ret (v:=.tuple #[.agg #[.slice none 0 0,.slice none 0 0],.int .i64 1]) (by simp [results,Try.results34,go_sem,q0,q1]) rfl ⟨rfl,hB4⟩
set_option maxHeartbeats 1000000 in
theorem Append_limit (A0_0:Option Addr) (c0_0:Nat) (l0_0:List Int) (A0_1:Option Addr) (c0_1:Nat) (l0_1:List (S45)) (A1:Option Addr) (c1 n:Nat) (w:World) (hr0_0:Kd.C (Kd.int .u8) w A0_0 l0_0.length l0_0) (hc0_0:l0_0.length ≤ c0_0) (hr0_1:Kd.C k45 w A0_1 l0_1.length l0_1) (hc0_1:l0_1.length ≤ c0_1)
 (Hok0:Hid (readOk l0_0 l0_1 0 0=true)) (hn:n ≠ 0) (hnm:n ≤ 140737488355328) (L:List (List Int)) (at_ kk:Nat) (Hrec:Hid (journal_Records.f l0_0 l0_1=some (L,(at_:Int)))) (Hkk:Hid (L.length=kk)) (hat:at_ ≤ 140737488355328) (h:4096 < n∨l0_0.length < at_ + 13 + n) :
 Calls Try.prog 34 #[.agg #[.slice A0_0 l0_0.length c0_0,.slice A0_1 l0_1.length c0_1],.slice A1 n c1] w fun e w'=>e=.returned (.tuple #[.agg #[.slice none 0 0,.slice none 0 0],.int .i64 2])∧Below w.heap.size w w':=by
 have hu25:=Try.underlying25
 have z0:((n:Int) == 0)=false:=by rw [beq_eq_false_iff_ne];omega
 have z1:((n:Int)=0)=False:=eq_false (by omega)
 have z1':(n=0)=False:=eq_false hn
 have e1:wrap64 ((at_:Int) + 13)=(at_:Int) + 13:=by unfold wrap64;omega
 have e2:wrap64 ((at_:Int) + 13 + (n:Int))=(at_:Int) + 13 + (n:Int):=by unfold wrap64;omega
 by_cases h4:4096 < n
 · have y0:decide ((n:Int) > 4096)=true:=decide_eq_true (by omega)
   have y1:((n:Int) > 4096)=True:=eq_true (by omega)
   have y2:(4096 < (n:Int))=True:=eq_true (by omega)
   have y3:(4096 < n)=True:=eq_true h4
   clear h
   go_enter Try.func34,Try.ntmps34
   go_wp2_with ((first|((with_reducible refine gate_dst (N:=2) rfl ?_);(refine box_event ?hg (N:=2) ?hd (cs:=#[.slice A0_0 l0_0.length c0_0,.slice A0_1 l0_1.length c0_1]) (t:=25) ?hr ?_);(case hd=>rfl);(case hg=>rfl);(case hr=>first|(go_simp;done)|(go_simp;rfl));intro g2 hg2 w1 hb1 hB1;have Hg2:Hid (w.heap.size ≤ g2):=(Lib.hid (by rw [hg2];exact Nat.le_refl _));have HB1:=Lib.hid hB1;have Hb1:=Lib.hid hb1;clear hb1 hB1 hg2)|((with_reducible refine gate_dst (N:=4) rfl ?_);(refine box_event ?hg (N:=4) ?hd (cs:=#[.slice none 0 0,.slice none 0 0]) (t:=25) ?hr ?_);(case hd=>rfl);(case hg=>rfl);(case hr=>first|(go_simp;done)|(go_simp;rfl));intro g4 hg4 w2 hb2 hB2;have Hg4:Hid (w.heap.size ≤ g4∧g2 < g4):=(Lib.hid (by rw [hg4];exact ⟨HB1.out.size,blk_lt Hb1.out⟩));have HB2:=Lib.hid (below_then HB1.out HB1.out.size hB2);have Hb2:=Lib.hid hb2;have Hb1:=Lib.hid (blk_below Hb1.out hB2);have k0:=(blk_cell Hb1.out 0).trans rfl;have k1:=(blk_cell Hb1.out 1).trans rfl;clear hb2 hB2 hg4)|(go_at_call 23;refine (disk_Read.calls A0_0 c0_0 l0_0 A0_1 c0_1 l0_1 0 0 _ _ w2 (Kd.C_below hr0_0 HB2.out) hc0_0 (Kd.C_below hr0_1 HB2.out) hc0_1 rfl).mono ?_;rintro e w3 ⟨v3,rfl,hr3,hB3⟩;obtain ⟨A3,c3,rfl⟩:=Kd.R_slice hr3;rw [Hok0.out];have HB3:=Lib.hid (below_then HB2.out HB2.out.size hB3);have Hb1:=Lib.hid (blk_below Hb1.out hB3);have Hb2:=Lib.hid (blk_below Hb2.out hB3);have k0:=(blk_cell Hb1.out 0).trans rfl;have k1:=(blk_cell Hb1.out 1).trans rfl;have k2:=(blk_cell Hb2.out 0).trans rfl;have k3:=(blk_cell Hb2.out 1).trans rfl;have kf2:=blk_frozen Hb2.out 0;have kf3:=blk_frozen Hb2.out 1;clear hr3 hB3)|(go_at_call 36;refine (journal_Records.calls A0_0 c0_0 l0_0 A0_1 c0_1 l0_1 _ _ w3 (Kd.C_below hr0_0 HB3.out) hc0_0 (Kd.C_below hr0_1 HB3.out) hc0_1 Hrec.out).mono ?_;rintro e w4 ⟨v4,rfl,hr4,hB4⟩;obtain ⟨A4,c4,rfl⟩:=Kd.S_slice hr4;rw [Hkk.out];have HB4:=Lib.hid (below_then HB3.out HB3.out.size hB4);have Hb1:=Lib.hid (blk_below Hb1.out hB4);have Hb2:=Lib.hid (blk_below Hb2.out hB4);have k0:=(blk_cell Hb1.out 0).trans rfl;have k1:=(blk_cell Hb1.out 1).trans rfl;have k2:=(blk_cell Hb2.out 0).trans rfl;have k3:=(blk_cell Hb2.out 1).trans rfl;have kf2:=blk_frozen Hb2.out 0;have kf3:=blk_frozen Hb2.out 1;clear hr4 hB4)))
   have hr2:=two_cells Hb2.out (.slice none 0 0) (.slice none 0 0)
   obtain ⟨w5,hw5⟩:∃ w5,w5=(w4.setCell ⟨g4,0,none⟩ (.slice none 0 0)).setCell ⟨g4,1,none⟩ (.slice none 0 0):=⟨_,rfl⟩
   rw [← hw5] at hr2 ⊢
   have q0:w5.cell? ⟨g4,0,none⟩=some (.slice none 0 0):=(blk_cell hr2 0).trans rfl
   have q1:w5.cell? ⟨g4,1,none⟩=some (.slice none 0 0):=(blk_cell hr2 1).trans rfl
   have hB5:Below w.heap.size w w5:=by rw [hw5];exact (HB4.out.setCell (p:=⟨g4,0,none⟩) Hg4.out.1 _).setCell (p:=⟨g4,1,none⟩) Hg4.out.1 _
   clear hw5 k0 k1 k2 k3 kf2 kf3
   exact bodyPost_ret (v:=.tuple #[.agg #[.slice none 0 0,.slice none 0 0],.int .i64 2]) (by simp [results,Try.results34,go_sem,q0,q1]) rfl ⟨rfl,hB5⟩
 · have y0:decide ((n:Int) > 4096)=false:=decide_eq_false (by omega)
   have y1:((n:Int) > 4096)=False:=eq_false (by omega)
   have y2:(4096 < (n:Int))=False:=eq_false (by omega)
   have y3:(4096 < n)=False:=eq_false h4
   have x0:((at_:Int) + 13 + (n:Int) > (l0_0.length:Int))=True:=eq_true (by omega)
   have x1:((l0_0.length:Int) < (at_:Int) + 13 + (n:Int))=True:=eq_true (by omega)
   clear h
   go_enter Try.func34,Try.ntmps34
   go_wp2_with ((first|((with_reducible refine gate_dst (N:=2) rfl ?_);(refine box_event ?hg (N:=2) ?hd (cs:=#[.slice A0_0 l0_0.length c0_0,.slice A0_1 l0_1.length c0_1]) (t:=25) ?hr ?_);(case hd=>rfl);(case hg=>rfl);(case hr=>first|(go_simp;done)|(go_simp;rfl));intro g2 hg2 w1 hb1 hB1;have Hg2:Hid (w.heap.size ≤ g2):=(Lib.hid (by rw [hg2];exact Nat.le_refl _));have HB1:=Lib.hid hB1;have Hb1:=Lib.hid hb1;clear hb1 hB1 hg2)|((with_reducible refine gate_dst (N:=4) rfl ?_);(refine box_event ?hg (N:=4) ?hd (cs:=#[.slice none 0 0,.slice none 0 0]) (t:=25) ?hr ?_);(case hd=>rfl);(case hg=>rfl);(case hr=>first|(go_simp;done)|(go_simp;rfl));intro g4 hg4 w2 hb2 hB2;have Hg4:Hid (w.heap.size ≤ g4∧g2 < g4):=(Lib.hid (by rw [hg4];exact ⟨HB1.out.size,blk_lt Hb1.out⟩));have HB2:=Lib.hid (below_then HB1.out HB1.out.size hB2);have Hb2:=Lib.hid hb2;have Hb1:=Lib.hid (blk_below Hb1.out hB2);have k0:=(blk_cell Hb1.out 0).trans rfl;have k1:=(blk_cell Hb1.out 1).trans rfl;clear hb2 hB2 hg4)|(go_at_call 23;refine (disk_Read.calls A0_0 c0_0 l0_0 A0_1 c0_1 l0_1 0 0 _ _ w2 (Kd.C_below hr0_0 HB2.out) hc0_0 (Kd.C_below hr0_1 HB2.out) hc0_1 rfl).mono ?_;rintro e w3 ⟨v3,rfl,hr3,hB3⟩;obtain ⟨A3,c3,rfl⟩:=Kd.R_slice hr3;rw [Hok0.out];have HB3:=Lib.hid (below_then HB2.out HB2.out.size hB3);have Hb1:=Lib.hid (blk_below Hb1.out hB3);have Hb2:=Lib.hid (blk_below Hb2.out hB3);have k0:=(blk_cell Hb1.out 0).trans rfl;have k1:=(blk_cell Hb1.out 1).trans rfl;have k2:=(blk_cell Hb2.out 0).trans rfl;have k3:=(blk_cell Hb2.out 1).trans rfl;have kf2:=blk_frozen Hb2.out 0;have kf3:=blk_frozen Hb2.out 1;clear hr3 hB3)|(go_at_call 36;refine (journal_Records.calls A0_0 c0_0 l0_0 A0_1 c0_1 l0_1 _ _ w3 (Kd.C_below hr0_0 HB3.out) hc0_0 (Kd.C_below hr0_1 HB3.out) hc0_1 Hrec.out).mono ?_;rintro e w4 ⟨v4,rfl,hr4,hB4⟩;obtain ⟨A4,c4,rfl⟩:=Kd.S_slice hr4;rw [Hkk.out];have HB4:=Lib.hid (below_then HB3.out HB3.out.size hB4);have Hb1:=Lib.hid (blk_below Hb1.out hB4);have Hb2:=Lib.hid (blk_below Hb2.out hB4);have k0:=(blk_cell Hb1.out 0).trans rfl;have k1:=(blk_cell Hb1.out 1).trans rfl;have k2:=(blk_cell Hb2.out 0).trans rfl;have k3:=(blk_cell Hb2.out 1).trans rfl;have kf2:=blk_frozen Hb2.out 0;have kf3:=blk_frozen Hb2.out 1;clear hr4 hB4)))
   have hr2:=two_cells Hb2.out (.slice none 0 0) (.slice none 0 0)
   obtain ⟨w5,hw5⟩:∃ w5,w5=(w4.setCell ⟨g4,0,none⟩ (.slice none 0 0)).setCell ⟨g4,1,none⟩ (.slice none 0 0):=⟨_,rfl⟩
   rw [← hw5] at hr2 ⊢
   have q0:w5.cell? ⟨g4,0,none⟩=some (.slice none 0 0):=(blk_cell hr2 0).trans rfl
   have q1:w5.cell? ⟨g4,1,none⟩=some (.slice none 0 0):=(blk_cell hr2 1).trans rfl
   have hB5:Below w.heap.size w w5:=by rw [hw5];exact (HB4.out.setCell (p:=⟨g4,0,none⟩) Hg4.out.1 _).setCell (p:=⟨g4,1,none⟩) Hg4.out.1 _
   clear hw5 k0 k1 k2 k3 kf2 kf3
   exact bodyPost_ret (v:=.tuple #[.agg #[.slice none 0 0,.slice none 0 0],.int .i64 2]) (by simp [results,Try.results34,go_sem,q0,q1]) rfl ⟨rfl,hB5⟩
end Go.Proofs.Ytfpdmlhknddffaa.Dk
end
section
namespace Go.Proofs.Ytfpdmlhknddffaa.Dk
open Go.RowKit Go.Proofs.YtfpdmlhknddffaaW.PrintWords Go.Proofs.YtfpdmlhknddffaaW.PrintLast Go.Proofs.YtfpdmlhknddffaaW.PrintMore
set_option linter.unusedVariables false
set_option linter.unusedSimpArgs false
theorem wrap_ok (x:Int) (h : -9223372036854775808 ≤ x) (h':x ≤ 9223372036854775807):wrap64 x=x:=by unfold wrap64;omega
theorem C_lit1 (W:World) (x:Int):Kd.C (Kd.int .u8) (W.alloc (.cells #[.int .u8 x] 5)) (some ⟨W.heap.size,0,none⟩) [x].length [x]:=by
 refine ⟨rfl,by simp,fun _=>⟨_,rfl,fun j p hj => ?_⟩⟩
 cases j with
 | succ j=>simp at hj
 | zero =>
  simp at hj
  subst hj
  exact ⟨[.int .u8 x],rfl,rfl,fun i u hu=>cell_one_new W (.int .u8 x) 5 _ u (by simpa [Kd.int,Kd.scalar] using hu)⟩
theorem boxed_disk {W W':World} {base b g4:Nat} {g:Nat} {c0 c1:Value} {v u:Value} {m:List Int} {q:List S45} {ok:Nat→Prop} (hb:W.heap[g]? = some (.cells #[c0,c1] 25 (0,0))) (hr:Kd.R (Kd.int .u8) 5 W b (fun _=>True) v m) (hs:Kd.S k45 45 W b ok u q) (hB:Below base W' W) (hg:base ≤ g) (hgb:base ≤ b) {c2 c3:Value} (h4:W.heap[g4]? = some (.cells #[c2,c3] 25 (0,0))) (hne:g ≠ g4) :
 ∃ Wn,Wn=(W.setCell ⟨g,0,none⟩ v).setCell ⟨g,1,none⟩ u∧Wn.heap[g]? = some (.cells #[v,u] 25 (0,0))∧Kd.R (Kd.int .u8) 5 Wn base (fun _=>True) v m∧Kd.S k45 45 Wn base ok u q∧Below base W' Wn∧Wn.heap[g4]? = some (.cells #[c2,c3] 25 (0,0)):=by
 refine ⟨_,rfl,two_cells hb v u,?_,?_,(hB.setCell (p:=⟨g,0,none⟩) hg _).setCell (p:=⟨g,1,none⟩) hg _,blk_far (blk_far h4 (Ne.symm hne) _) (Ne.symm hne) _⟩
 · exact Kd.R_lower (Kd.R_set (Kd.R_set hr hb (by decide) 0 _) (blk_put hb 0 _ rfl) (by decide) 1 _) hgb
 · exact Kd.S_lower (Kd.S_set (Kd.S_set hs hb (by decide) 0 _) (blk_put hb 0 _ rfl) (by decide) 1 _) hgb
set_option maxHeartbeats 4000000 in
set_option maxRecDepth 100000 in
theorem Append_ok (A0_0:Option Addr) (c0_0:Nat) (l0_0:List Int) (A0_1:Option Addr) (c0_1:Nat) (l0_1:List (S45)) (A1:Option Addr) (c1:Nat) (l1:List Int) (n:Nat) (w:World) (hr0_0:Kd.C (Kd.int .u8) w A0_0 l0_0.length l0_0) (hc0_0:l0_0.length ≤ c0_0) (hr0_1:Kd.C k45 w A0_1 l0_1.length l0_1) (hc0_1:l0_1.length ≤ c0_1)
 (hr1:Kd.C (Kd.int .u8) w A1 l1.length l1) (hc1:l1.length ≤ c1) (Hn:Hid (n=l1.length))
 (Hok0:Hid (readOk l0_0 l0_1 0 0=true)) (hn:n ≠ 0) (hn4:n ≤ 4096) (L:List (List Int)) (at_ kk:Nat) (Hrec:Hid (journal_Records.f l0_0 l0_1=some (L,(at_:Int)))) (Hkk:Hid (L.length=kk)) (hat:at_ + 13 + n ≤ l0_0.length) (hl0:l0_0.length ≤ 65536)
 (ke:Nat) (code rest:List Int) (nc:Nat) (Hke:Hid (journal_encode.f ke l1 (kk:Int)=some code)) (Hnc:Hid (code.length=nc)) (hnc:nc=13 + n) (Hrest:Hid (rest=if at_ + nc < l0_0.length then code.drop 1 ++ [0] else code.drop 1))
 (m0 m1 m2:List Int) (q0 q1 q2:List S45) (Hp1:Hid (journal_put.f l0_0 l0_1 (at_:Int) [0]=some (m0,q0,0))) (Hp2:Hid (journal_put.f m0 q0 ((at_:Int) + 1) rest=some (m1,q1,0))) (Hp3:Hid (journal_put.f m1 q1 (at_:Int) [82]=some (m2,q2,0))) :
 Calls Try.prog 34 #[.agg #[.slice A0_0 l0_0.length c0_0,.slice A0_1 l0_1.length c0_1],.slice A1 n c1] w fun e w'=>∃ v0_ v1_:Value,e=.returned (.tuple #[.agg #[v0_,v1_],.int .i64 0])∧Kd.R (Kd.int .u8) 5 w' w.heap.size (fun _=>True) v0_ m2∧Kd.S k45 45 w' w.heap.size (fun k_=>some k_ ≠ (v0_:Value).ownBlock) v1_ q2∧Below w.heap.size w w':=by
 have hu25:=Try.underlying25
 have hu22:=Try.underlying22
 obtain ⟨i5,hi5,hz5,hs5,hy5⟩:=info_parts info5
 have z0:((n:Int) == 0)=false:=by rw [beq_eq_false_iff_ne];omega
 have z1:((n:Int)=0)=False:=eq_false (by omega)
 have z1':(n=0)=False:=eq_false hn
 have y0:decide ((n:Int) > 4096)=false:=decide_eq_false (by omega)
 have y1:((n:Int) > 4096)=False:=eq_false (by omega)
 have y2:(4096 < (n:Int))=False:=eq_false (by omega)
 have y3:(4096 < n)=False:=eq_false (by omega)
 have x0:((at_:Int) + 13 + (n:Int) > (l0_0.length:Int))=False:=eq_false (by omega)
 have x1:((l0_0.length:Int) < (at_:Int) + 13 + (n:Int))=False:=eq_false (by omega)
 have Hhnc:=Lib.hid hnc
 have hncp:0 < nc:=by omega
 have Hn1:Hid ((1:Int) ≤ (nc:Int)):=Lib.hid (by omega)
 have Hl0:=Lib.hid hl0
 obtain ⟨e1,e2,e3,e4⟩:wrap64 ((at_:Int) + 13)=(at_:Int) + 13∧wrap64 ((at_:Int) + 13 + (n:Int))=(at_:Int) + 13 + (n:Int)∧wrap64 ((at_:Int) + (nc:Int))=(at_:Int) + (nc:Int)∧wrap64 ((at_:Int) + 1)=(at_:Int) + 1:=⟨wrap_ok _ (by omega) (by omega),wrap_ok _ (by omega) (by omega),wrap_ok _ (by omega) (by omega),wrap_ok _ (by omega) (by omega)⟩
 have Hat:=Lib.hid hat
 clear hnc hat hl0
 go_enter Try.func34,Try.ntmps34
 go_upto_region 9 with ((first|((with_reducible refine gate_dst (N:=2) rfl ?_);(refine box_event ?hg (N:=2) ?hd (cs:=#[.slice A0_0 l0_0.length c0_0,.slice A0_1 l0_1.length c0_1]) (t:=25) ?hr ?_);(case hd=>rfl);(case hg=>rfl);(case hr=>first|(go_simp;done)|(go_simp;rfl));intro g2 hg2 w1 hb1 hB1;have Hg2:Hid (w.heap.size ≤ g2):=(Lib.hid (by rw [hg2];exact Nat.le_refl _));have HB1:=Lib.hid hB1;have Hb1:=Lib.hid hb1;clear hb1 hB1 hg2)|((with_reducible refine gate_dst (N:=4) rfl ?_);(refine box_event ?hg (N:=4) ?hd (cs:=#[.slice none 0 0,.slice none 0 0]) (t:=25) ?hr ?_);(case hd=>rfl);(case hg=>rfl);(case hr=>first|(go_simp;done)|(go_simp;rfl));intro g4 hg4 w2 hb2 hB2;have Hg4:Hid (w.heap.size ≤ g4∧g2 < g4):=(Lib.hid (by rw [hg4];exact ⟨HB1.out.size,blk_lt Hb1.out⟩));have HB2:=Lib.hid (below_then HB1.out HB1.out.size hB2);have Hb2:=Lib.hid hb2;have Hb1:=Lib.hid (blk_below Hb1.out hB2);have k0:=(blk_cell Hb1.out 0).trans rfl;have k1:=(blk_cell Hb1.out 1).trans rfl;clear hb2 hB2 hg4)|(go_at_call 23;refine (disk_Read.calls A0_0 c0_0 l0_0 A0_1 c0_1 l0_1 0 0 _ _ w2 (Kd.C_below hr0_0 HB2.out) hc0_0 (Kd.C_below hr0_1 HB2.out) hc0_1 rfl).mono ?_;rintro e w3 ⟨v3,rfl,hr3,hB3⟩;obtain ⟨A3,c3,rfl⟩:=Kd.R_slice hr3;rw [Hok0.out];have HB3:=Lib.hid (below_then HB2.out HB2.out.size hB3);have Hb1:=Lib.hid (blk_below Hb1.out hB3);have Hb2:=Lib.hid (blk_below Hb2.out hB3);have k0:=(blk_cell Hb1.out 0).trans rfl;have k1:=(blk_cell Hb1.out 1).trans rfl;have k2:=(blk_cell Hb2.out 0).trans rfl;have k3:=(blk_cell Hb2.out 1).trans rfl;have kf2:=blk_frozen Hb2.out 0;have kf3:=blk_frozen Hb2.out 1;clear hr3 hB3)|(go_at_call 36;refine (journal_Records.calls A0_0 c0_0 l0_0 A0_1 c0_1 l0_1 _ _ w3 (Kd.C_below hr0_0 HB3.out) hc0_0 (Kd.C_below hr0_1 HB3.out) hc0_1 Hrec.out).mono ?_;rintro e w4 ⟨v4,rfl,hr4,hB4⟩;obtain ⟨A4,c4,rfl⟩:=Kd.S_slice hr4;rw [Hkk.out];have HB4:=Lib.hid (below_then HB3.out HB3.out.size hB4);have Hb1:=Lib.hid (blk_below Hb1.out hB4);have Hb2:=Lib.hid (blk_below Hb2.out hB4);have k0:=(blk_cell Hb1.out 0).trans rfl;have k1:=(blk_cell Hb1.out 1).trans rfl;have k2:=(blk_cell Hb2.out 0).trans rfl;have k3:=(blk_cell Hb2.out 1).trans rfl;have kf2:=blk_frozen Hb2.out 0;have kf3:=blk_frozen Hb2.out 1;clear hr4 hB4)|(go_at_call 51;refine (show Calls Try.prog 51 #[.slice A1 n c1,.int .i64 (kk:Int)] w4 _ from (by rw [Hn.out];exact journal_encode.calls ke A1 c1 l1 (kk:Int) code w4 (Kd.C_below hr1 HB4.out) hc1 Hke.out)).mono ?_;rintro e w5 ⟨v5,rfl,hr5,hB5⟩;obtain ⟨A5,c5,rfl⟩:=Kd.R_slice hr5;rw [Hnc.out] at hr5 ⊢;have hcut:=cut_from (P:=Try.prog) 22 5 .i64 hu22 hi5 1 hs5 A5 nc c5 1 (by decide) Hn1.out;obtain ⟨dp,hdp⟩:∃ dp,dp=(if c5=(1:Int).toNat then A5 else A5.map (·.add ((1:Int).toNat * 1))):=⟨_,rfl⟩;rw [← hdp] at hcut;have HQ5:Hid (Kd.Q (Kd.int .u8) 5 w5 w4.heap.size (fun _=>True) (.slice dp (nc - 1) (c5 - 1)) (code.drop 1)):=(Lib.hid (by rw [hdp];exact Kd.Q_drop (Kd.Q_of_R hr5) (by rw [Hnc.out];exact hncp)));have HB5:=Lib.hid (below_then HB4.out HB4.out.size hB5);have H45:=Lib.hid hB5;have Hb1:=Lib.hid (blk_below Hb1.out hB5);have Hb2:=Lib.hid (blk_below Hb2.out hB5);have k0:=(blk_cell Hb1.out 0).trans rfl;have k1:=(blk_cell Hb1.out 1).trans rfl;have k2:=(blk_cell Hb2.out 0).trans rfl;have k3:=(blk_cell Hb2.out 1).trans rfl;have kf2:=blk_frozen Hb2.out 0;have kf3:=blk_frozen Hb2.out 1;clear hr5 hB5 hdp)))
 have E4:=Lib.hid e4
 clear e1 e2 e4 x0 x1 y0 y1 y2 y3 z0 z1 z1' hn4 hncp hcut
 go_upto_if 59 with (fail)
 have hw45:w.heap.size ≤ w4.heap.size:=HB4.out.size
 have HQ6:=Lib.hid (Kd.Q_lower HQ5.out hw45)
 clear hw45 HQ5 e3
 go_cut [11] (fun v11 wc=>∃ (Ar:Option Addr) (nr cr:Nat),v11=.slice Ar nr cr∧Hid (nr=rest.length)∧Hid (Kd.Q (Kd.int .u8) 5 wc w.heap.size (fun _=>True) (.slice Ar nr cr) rest)∧Hid (wc.heap[g2]? = some (.cells #[.slice A0_0 l0_0.length c0_0,.slice A0_1 l0_1.length c0_1] 25 (0,0)))∧Hid (wc.heap[g4]? = some (.cells #[.slice none 0 0,.slice none 0 0] 25 (0,0)))∧Hid (Below w.heap.size w wc))
 case first =>
  by_cases hf:at_ + nc < l0_0.length
  · have f0:((at_:Int) + (nc:Int) < (l0_0.length:Int))=True:=eq_true (by have:=Hl0.out;omega)
    have Hr2:Hid (rest=code.drop 1 ++ [0]):=Lib.hid (by rw [Hrest.out,if_pos hf])
    have Hlen:Hid ((code.drop 1).length=nc - 1∧(code.drop 1).length + 1 ≤ 140737488355328):=Lib.hid (by have:=Hl0.out;rw [List.length_drop,Hnc.out];omega)
    go_wp2_with (first|((with_reducible refine gate_dst (N:=62) rfl ?_);refine Kd.Q_append (Kd.int .u8) (w0:=w5) (W:=w5) w.heap.size rfl (.tmp 60) (.tmp 61) 22 5 (.int .u8 0) 1 rfl hu22 info5 rfl (by decide) (by decide) (.slice dp (nc - 1) (c5 - 1)) (code.drop 1) 0 [.int .u8 0] (fun _=>True) (fun _=>False) rfl rfl rfl (fun _ h=>h.elim) (fun _ _=>trivial) HQ6.out ((Below.refl _ _).mono HB5.out.size) HB5.out.size (by rw [Nat.mul_one];exact Hlen.out.2) ?_;intro v11 w6 hq6 hb6 hg6 hat6;obtain ⟨A11,c11,rfl,_⟩:=Kd.Q_slice hq6;have Hq6:=Lib.hid hq6;have Hg6:=Lib.hid hg6;have Hb6:=Lib.hid hb6;clear hq6 hb6 hg6 hat6) )
    have hn11:rest.length=(code.drop 1 ++ [0]).length:=by rw [Hr2.out]
    go_meet
    case rel=>exact ⟨A11,_,c11,rfl,Lib.hid (by rw [Hr2.out];simp),Lib.hid (by have h:=Hq6.out;simp only [List.length_append,List.length_drop,List.length_singleton] at h;rw [← Hr2.out] at h;exact h),Lib.hid (blk_grown Hb1.out Hg6.out (Kd.Q_ne HQ6.out Hb1.out (by decide))),Lib.hid (blk_grown Hb2.out Hg6.out (Kd.Q_ne HQ6.out Hb2.out (by decide))),Lib.hid (HB5.out.trans Hb6.out)⟩
  · have f0:((at_:Int) + (nc:Int) < (l0_0.length:Int))=False:=eq_false (by have:=Hl0.out;omega)
    have Hr2:Hid (rest=code.drop 1):=Lib.hid (by rw [Hrest.out,if_neg hf])
    go_wp2
    go_meet
    case rel=>exact ⟨dp,nc - 1,c5 - 1,rfl,Lib.hid (by rw [Hr2.out,List.length_drop,Hnc.out]),Lib.hid (by rw [Hr2.out];exact HQ6.out),Hb1,Hb2,HB5⟩
 case rest =>
  obtain ⟨Ar,nr,cr,rfl,Hnr,HQ,Hc1,Hc2,HBc⟩:=hcut
  obtain rfl:=Hnr.out
  clear k0 k1 k2 k3 kf2 kf3 Hb1 Hb2 Hnr
  have hg24:g2 ≠ g4:=by have:=Hg4.out.2;omega
  have Hg24:=Lib.hid hg24
  have e4:=E4.out
  clear hg24
  have k0:=(blk_cell Hc1.out 0).trans rfl
  have k1:=(blk_cell Hc1.out 1).trans rfl
  go_upto_region 12 with (first|(go_at_call 52;refine (journal_put.calls A0_0 c0_0 l0_0 A0_1 c0_1 l0_1 (at_:Int) (some ⟨wc.heap.size,0,none⟩) 1 [0] _ _ _ (wc.alloc (.cells #[.int .u8 0] 5)) (Kd.C_below hr0_0 (HBc.out.alloc HBc.out.size _)) hc0_0 (Kd.C_below hr0_1 (HBc.out.alloc HBc.out.size _)) hc0_1 (C_lit1 wc 0) (by decide) Hp1.out).mono ?_;rintro e w6 ⟨v,u,rfl,hr,hs,hB⟩;obtain ⟨AR1,cR1,rfl⟩:=Kd.R_slice hr;obtain ⟨AS1,cS1,rfl⟩:=Kd.S_slice hs;have HR1:=Lib.hid hr;have HS1:=Lib.hid hs;have HB1x:=Lib.hid hB;have G21x:=Lib.hid (blk_below ((blk_below Hc1.out (below_alloc (Below.refl _ _) _)):(wc.alloc (.cells #[.int .u8 0] 5)).heap[g2]? = _) hB);have kf0:=blk_frozen G21x.out 0;have kf1:=blk_frozen G21x.out 1;have kk0:=(blk_cell G21x.out 0).trans rfl;have kk1:=(blk_cell G21x.out 1).trans rfl;clear hr hs hB k0 k1) )
  have hB6:Below w.heap.size w w6:=below_then (HBc.out.alloc HBc.out.size _) (HBc.out.alloc HBc.out.size _).size HB1x.out
  have G46:=blk_below (blk_below Hc2.out (below_alloc (Below.refl _ _) (.cells #[.int .u8 0] 5))) HB1x.out
  have HQ6:=Kd.Q_below (Kd.Q_alloc HQ.out (.cells #[.int .u8 0] 5)) HB1x.out
  obtain ⟨w7,hw7,G27,R7,S7,B7,G47⟩:=boxed_disk G21x.out HR1.out HS1.out hB6 Hg2.out (HBc.out.alloc HBc.out.size (.cells #[.int .u8 0] 5)).size G46 Hg24.out
  have HQ7:Kd.Q (Kd.int .u8) 5 w7 w.heap.size (fun _=>True) (.slice Ar rest.length cr) rest:=by
   rw [hw7]
   exact Kd.Q_set (Kd.Q_set HQ6 G21x.out (by decide) 0 _) (blk_put G21x.out 0 _ rfl) (by decide) 1 _
  rw [← hw7]
  have Q7:=Lib.hid HQ7
  have G27':=Lib.hid G27
  have G47':=Lib.hid G47
  have R7':=Lib.hid R7
  have S7':=Lib.hid S7
  have B7':=Lib.hid B7
  have k0:=(blk_cell G27 0).trans rfl
  have k1:=(blk_cell G27 1).trans rfl
  clear hB6 G46 HQ6 hw7 HQ7 G27 G47 R7 S7 B7 kf0 kf1 kk0 kk1
  go_upto_region 14 with (first|(go_at_call 52;refine (journal_put.calls AR1 cR1 m0 AS1 cS1 q0 ((at_:Int) + 1) Ar cr rest _ _ _ w7 (Kd.R_reads' R7'.out).2.2 (Kd.R_reads' R7'.out).2.1 (Kd.R_reads' (Kd.S_R S7'.out)).2.2 (Kd.R_reads' (Kd.S_R S7'.out)).2.1 (Kd.Q_reads' Q7.out).2.2 (Kd.Q_reads' Q7.out).2.1 Hp2.out).mono ?_;rintro e w8 ⟨v,u,rfl,hr,hs,hB⟩;obtain ⟨AR2,cR2,rfl⟩:=Kd.R_slice hr;obtain ⟨AS2,cS2,rfl⟩:=Kd.S_slice hs;have HR2:=Lib.hid hr;have HS2:=Lib.hid hs;have HB2x:=Lib.hid hB;have G22x:=Lib.hid (blk_below G27'.out hB);have kf0:=blk_frozen G22x.out 0;have kf1:=blk_frozen G22x.out 1;have kk0:=(blk_cell G22x.out 0).trans rfl;have kk1:=(blk_cell G22x.out 1).trans rfl;clear hr hs hB k0 k1) )
  have hB8:Below w.heap.size w w8:=below_then B7'.out B7'.out.size HB2x.out
  obtain ⟨w9,hw9,G29,R9,S9,B9,G49⟩:=boxed_disk G22x.out HR2.out HS2.out hB8 Hg2.out B7'.out.size (blk_below G47'.out HB2x.out) Hg24.out
  rw [← hw9]
  have G29':=Lib.hid G29
  have G49':=Lib.hid G49
  have R9':=Lib.hid R9
  have S9':=Lib.hid S9
  have B9':=Lib.hid B9
  have k0:=(blk_cell G29 0).trans rfl
  have k1:=(blk_cell G29 1).trans rfl
  clear hB8 hw9 G29 G49 R9 S9 B9 kf0 kf1 kk0 kk1 e4
  go_upto_region 16 with (first|(go_at_call 52;refine (journal_put.calls AR2 cR2 m1 AS2 cS2 q1 (at_:Int) (some ⟨w9.heap.size,0,none⟩) 1 [82] _ _ _ (w9.alloc (.cells #[.int .u8 82] 5)) (Kd.C_below (Kd.R_reads' R9'.out).2.2 (below_alloc (Below.refl _ _) _)) (Kd.R_reads' R9'.out).2.1 (Kd.C_below (Kd.R_reads' (Kd.S_R S9'.out)).2.2 (below_alloc (Below.refl _ _) _)) (Kd.R_reads' (Kd.S_R S9'.out)).2.1 (C_lit1 w9 82) (by decide) Hp3.out).mono ?_;rintro e w10 ⟨v,u,rfl,hr,hs,hB⟩;obtain ⟨AR3,cR3,rfl⟩:=Kd.R_slice hr;obtain ⟨AS3,cS3,rfl⟩:=Kd.S_slice hs;have HR3:=Lib.hid hr;have HS3:=Lib.hid hs;have HB3x:=Lib.hid hB;have G23x:=Lib.hid (blk_below ((blk_below G29'.out (below_alloc (Below.refl _ _) _)):(w9.alloc (.cells #[.int .u8 82] 5)).heap[g2]? = _) hB);have kf0:=blk_frozen G23x.out 0;have kf1:=blk_frozen G23x.out 1;have kk0:=(blk_cell G23x.out 0).trans rfl;have kk1:=(blk_cell G23x.out 1).trans rfl;clear hr hs hB k0 k1) )
  have hB9a:Below w.heap.size w (w9.alloc (.cells #[.int .u8 82] 5)):=B9'.out.alloc B9'.out.size _
  have hB10:Below w.heap.size w w10:=below_then hB9a hB9a.size HB3x.out
  obtain ⟨w11,hw11,G211,R11,S11,B11,G411⟩:=boxed_disk G23x.out HR3.out HS3.out hB10 Hg2.out hB9a.size (blk_below (blk_below G49'.out (below_alloc (Below.refl _ _) (.cells #[.int .u8 82] 5))) HB3x.out) Hg24.out
  rw [← hw11]
  have G211':=Lib.hid G211
  have G411':=Lib.hid G411
  have R11':=Lib.hid R11
  have S11':=Lib.hid S11
  have B11':=Lib.hid B11
  have k0:=(blk_cell G211 0).trans rfl
  have k1:=(blk_cell G211 1).trans rfl
  have k2:=(blk_cell G411 0).trans rfl
  have k3:=(blk_cell G411 1).trans rfl
  have kf2:=blk_frozen G411 0
  have kf3:=blk_frozen G411 1
  clear hB9a hB10 hw11 G211 G411 R11 S11 B11 kf0 kf1 kk0 kk1
  go_wp2
  obtain ⟨w12,hw12,G412,R12,S12,B12,_⟩:=boxed_disk G411'.out R11'.out S11'.out B11'.out Hg4.out.1 (Nat.le_refl _) G211'.out (Ne.symm Hg24.out)
  rw [← hw12]
  have j0:w12.cell? ⟨g4,0,none⟩=some (.slice AR3 m2.length cR3):=(blk_cell G412 0).trans rfl
  have j1:w12.cell? ⟨g4,1,none⟩=some (.slice AS3 q2.length cS3):=(blk_cell G412 1).trans rfl
  clear k0 k1 k2 k3 kf2 kf3
  exact bodyPost_ret (v:=.tuple #[.agg #[.slice AR3 m2.length cR3,.slice AS3 q2.length cS3],.int .i64 0]) (by simp [results,Try.results34,go_sem,j0,j1]) rfl ⟨_,_,rfl,R12,S12,B12⟩
end Go.Proofs.Ytfpdmlhknddffaa.Dk
end
section
namespace Go.Proofs.Ytfpdmlhknddffaa.Dk
open Go.RowKit Go.Proofs.YtfpdmlhknddffaaW.PrintWords Go.Proofs.YtfpdmlhknddffaaW.PrintLast Go.Proofs.YtfpdmlhknddffaaW.PrintMore
set_option linter.unusedVariables false
set_option linter.unusedSimpArgs false
def appRest (at_:Nat) (n:Nat) (code:List Int):List Int:=if at_ + code.length < n then code.drop 1 ++ [0] else code.drop 1
def journal_Append.f (l0_0:List Int) (l0_1:List (S45)) (l1:List Int):Option (List Int × (List (S45)) × Int) :=
 if l0_0.length ≤ 65536∧l1.length ≤ 65536 then
  (if readOk l0_0 l0_1 0 0=true∧l1.length ≠ 0 then
   ((journal_Records.f l0_0 l0_1).bind fun b=>if 0 ≤ b.2∧b.2 ≤ 65536 then
    (if 4096 < l1.length∨l0_0.length < b.2.toNat + 13 + l1.length then some ([],[],2) else
     ((journal_put.f l0_0 l0_1 b.2 [0]).bind fun p=>if p.2.2=0 then
      ((journal_put.f p.1 p.2.1 (b.2 + 1) (appRest b.2.toNat l0_0.length (encL l1 (b.1.length:Int)))).bind fun p2=>if p2.2.2=0 then
       ((journal_put.f p2.1 p2.2.1 b.2 [82]).bind fun p3=>if p3.2.2=0 then some (p3.1,p3.2.1,0) else none) else none) else none)) else none)
  else some ([],[],1))
 else none
theorem journal_Append.calls (A0_0:Option Addr) (c0_0:Nat) (l0_0:List Int) (A0_1:Option Addr) (c0_1:Nat) (l0_1:List (S45)) (A1:Option Addr) (c1:Nat) (l1:List Int) (r1:List Int) (r2:List (S45)) (r3:Int) (w:World) (hr0_0:Kd.C (Kd.int .u8) w A0_0 l0_0.length l0_0) (hc0_0:l0_0.length ≤ c0_0) (hr0_1:Kd.C k45 w A0_1 l0_1.length l0_1) (hc0_1:l0_1.length ≤ c0_1) (hr1:Kd.C (Kd.int .u8) w A1 l1.length l1) (hc1:l1.length ≤ c1) (h:journal_Append.f l0_0 l0_1 l1=some (r1,r2,r3)) :
 Calls Try.prog 34 #[.agg #[.slice A0_0 l0_0.length c0_0,.slice A0_1 l0_1.length c0_1],.slice A1 l1.length c1] w fun e w'=>∃ v0_ v1_:Value,e=.returned (.tuple #[.agg #[v0_,v1_],.int .i64 r3])∧Kd.R (Kd.int .u8) 5 w' w.heap.size (fun _=>True) v0_ r1∧Kd.S k45 45 w' w.heap.size (fun k_=>some k_ ≠ (v0_:Value).ownBlock) v1_ r2∧Below w.heap.size w w':=by
 unfold journal_Append.f at h
 split at h
 · rename_i hl
   split at h
   · rename_i hok
     obtain ⟨⟨L,at_⟩,hrec,h⟩:=Option.bind_eq_some_iff.mp h
     dsimp only at h
     split at h
     · rename_i hat
       obtain ⟨a,rfl⟩:∃ a:Nat,at_=(a:Int):=⟨at_.toNat,by omega⟩
       rw [Int.toNat_natCast] at h
       split at h
       · rename_i hlim
         injection h with h
         obtain ⟨rfl,rfl,rfl⟩:=h
         refine (Append_limit A0_0 c0_0 l0_0 A0_1 c0_1 l0_1 A1 c1 l1.length w hr0_0 hc0_0 hr0_1 hc0_1 (Lib.hid hok.1) hok.2 (by omega) L a _ (Lib.hid hrec) (Lib.hid rfl) (by omega) hlim).mono ?_
         rintro e w' ⟨rfl,hb⟩
         exact ⟨_,_,rfl,Kd.R_nil _ _ _ _ _,Kd.S_nil _ _ _ _ _,hb⟩
       · rename_i hlim
         obtain ⟨⟨m0,q0,e0⟩,hp1,h⟩:=Option.bind_eq_some_iff.mp h
         try dsimp only at h
         split at h
         · rename_i he0
           try dsimp only at he0
           subst he0
           obtain ⟨⟨m1,q1,e1⟩,hp2,h⟩:=Option.bind_eq_some_iff.mp h
           try dsimp only at h
           split at h
           · rename_i he1
             try dsimp only at he1
             subst he1
             obtain ⟨⟨m2,q2,e2⟩,hp3,h⟩:=Option.bind_eq_some_iff.mp h
             try dsimp only at h
             split at h
             · rename_i he2
               try dsimp only at he2
               subst he2
               injection h with h
               obtain ⟨rfl,rfl,rfl⟩:=h
               obtain ⟨ke,hke⟩:=(encode_ev l1 (L.length:Int) (by omega)).rounds
               have hel:=encL_length l1 (L.length:Int)
               exact Append_ok A0_0 c0_0 l0_0 A0_1 c0_1 l0_1 A1 c1 l1 l1.length w hr0_0 hc0_0 hr0_1 hc0_1 hr1 hc1 (Lib.hid rfl) (Lib.hid hok.1) hok.2 (by omega) L a L.length (Lib.hid hrec) (Lib.hid rfl) (by omega) hl.1 ke (encL l1 (L.length:Int)) _ _ (Lib.hid hke) (Lib.hid hel) rfl (Lib.hid (by unfold appRest;rw [hel])) m0 m1 _ q0 q1 _ (Lib.hid hp1) (Lib.hid hp2) (Lib.hid hp3)
             · cases h
           · cases h
         · cases h
     · cases h
   · rename_i hok
     injection h with h
     obtain ⟨rfl,rfl,rfl⟩:=h
     refine (Append_arg A0_0 c0_0 l0_0 A0_1 c0_1 l0_1 A1 c1 l1.length w hr0_0 hc0_0 hr0_1 hc0_1 (readOk l0_0 l0_1 0 0) (Lib.hid rfl) (fun hb=>by by_cases hz:l1.length=0;exact hz;exact absurd ⟨hb,hz⟩ hok)).mono ?_
     rintro e w' ⟨rfl,hb⟩
     exact ⟨_,_,rfl,Kd.R_nil _ _ _ _ _,Kd.S_nil _ _ _ _ _,hb⟩
 · cases h
end Go.Proofs.Ytfpdmlhknddffaa.Dk
end
section
namespace Go.Proofs.Ytfpdmlhknddffaa.Dk
open Go.RowKit Go.Proofs.YtfpdmlhknddffaaW.PrintWords Go.Proofs.YtfpdmlhknddffaaW.PrintLast Go.Proofs.YtfpdmlhknddffaaW.PrintMore
attribute [local go_sem] field25 field25b max2_int min2_int max_two min_two max_three min_three max_four min_four
set_option linter.unusedVariables false
set_option linter.unusedSimpArgs false
def wageofficeref43_Records.l0:Nat→List Int→List (List Int)→Int→Option ((List (List Int)) × Int)
 | 0,_,_,_=>none
 | k + 1,x4,x5,x6=>(wageofficeref43_record.f k x4 x6 (x5.length:Int)).bind fun bt216=>(if bt216.2=true then (if x5.length < 5864062014805 then (wageofficeref43_Records.l0 k x4 (x5 ++ [bt216.1]) (wrap64 (x6 + (wrap64 (13 + (bt216.1.length:Int)))))) else (none)) else (some (x5,x6)))
def wageofficeref43_Records.f (k:Nat) (l0_0:List Int) (l0_1:List (S45)):Option ((List (List Int)) × Int):=(wageofficeref42_Valid.f k l0_0 l0_1).bind fun t212=>(if t212=true then ((wageofficeref43_Bytes.f l0_0 l0_1).bind fun t213=>(wageofficeref43_Records.l0 k t213 ([]:List (List Int)) 0)) else (some (([]:List (List Int)),0)))
set_option maxHeartbeats 8000000 in
set_option maxRecDepth 100000 in
theorem wageofficeref43_Records.calls (k:Nat) (A0_0:Option Addr) (c0_0:Nat) (l0_0:List Int) (A0_1:Option Addr) (c0_1:Nat) (l0_1:List (S45)) (r1:List (List Int)) (r2:Int) (w:World) (hr0_0:Kd.C (Kd.int .u8) w A0_0 l0_0.length l0_0) (hc0_0:l0_0.length ≤ c0_0) (hr0_1:Kd.C k45 w A0_1 l0_1.length l0_1) (hc0_1:l0_1.length ≤ c0_1) (h:wageofficeref43_Records.f k l0_0 l0_1=some (r1,r2)) :
 Calls Try.prog 37 #[.agg #[.slice A0_0 l0_0.length c0_0,.slice A0_1 l0_1.length c0_1]] w fun e w'=>∃ v0_:Value,e=.returned (.tuple #[v0_,.int .i64 r2])∧Kd.S (Kd.slice 5 (Kd.int .u8)) 22 w' w.heap.size (fun _=>True) v0_ r1∧Below w.heap.size w w':=by
 have hu25:=Try.underlying25
 have HR0_0:=Aside0.mk hr0_0
 have HC0_0:=Aside0.mk hc0_0
 clear hr0_0 hc0_0
 have HR0_1:=Aside0.mk hr0_1
 have HC0_1:=Aside0.mk hc0_1
 clear hr0_1 hc0_1
 have HB:=Aside0.mk (Below.refl w.heap.size w)
 have H:((wageofficeref42_Valid.f k l0_0 l0_1).bind fun t212=>(if t212=true then ((wageofficeref43_Bytes.f l0_0 l0_1).bind fun t213=>(wageofficeref43_Records.l0 k t213 ([]:List (List Int)) 0)) else (some (([]:List (List Int)),0))))=some (r1,r2):=h
 clear h
 replace H:=Option.bind_eq_some_iff.mp H
 obtain ⟨t212,A20,H⟩:=H
 replace H:(if t212=true then ((wageofficeref43_Bytes.f l0_0 l0_1).bind fun t213=>(wageofficeref43_Records.l0 k t213 ([]:List (List Int)) 0)) else (some (([]:List (List Int)),0)))=some (r1,r2):=H
 have A2:=Aside0.mk A20
 clear A20
 by_cases c3:t212=true
 · subst c3
   have H1:((wageofficeref43_Bytes.f l0_0 l0_1).bind fun t213=>(wageofficeref43_Records.l0 k t213 ([]:List (List Int)) 0))=some (r1,r2):=by rw [if_pos rfl] at H;exact H
   clear H
   have H:=H1
   clear H1
   replace H:=Option.bind_eq_some_iff.mp H
   obtain ⟨t213,A40,H⟩:=H
   replace H:(wageofficeref43_Records.l0 k t213 ([]:List (List Int)) 0)=some (r1,r2):=H
   have A4:=Aside0.mk A40
   clear A40
   have H':=Aside0.mk H
   clear H
   go_enter Try.func37,Try.ntmps37
   go_wp2_with (first|((with_reducible refine gate_dst (N:=1) rfl ?_);refine box_event ?hg (N:=1) ?hd (cs:=#[.slice A0_0 l0_0.length c0_0,.slice A0_1 l0_1.length c0_1]) (t:=25) ?hr ?_;(case hd=>rfl);(case hg=>rfl);(case hr=>first|(go_simp;done)|(go_simp;rfl));intro gb211 hg w5 hbox hb;have n0_:=Aside0.mk (below_step (by repeat (first|(with_reducible first|exact HB.out|apply below_alloc|apply pw_below_drewN|apply below_drew1)|exact HB.out)) hb);have n1_:=Aside0.mk (hbox);have n2_:=Aside0.mk ((by rw [hg];exact (below_size (by repeat (first|(with_reducible first|exact HB.out|apply below_alloc|apply pw_below_drewN|apply below_drew1)|exact HB.out))):w.heap.size ≤ gb211));have n3_:=Aside0.mk ((by rw [hg];exact (below_size (by repeat (first|(with_reducible first|exact HB.out|apply below_alloc|apply pw_below_drewN|apply below_drew1)|exact HB.out))):w.heap.size ≤ gb211));clear HB;have HB:=n0_;have BK211:=n1_;have GW211:=n2_;have GE211:=n3_;clear n0_ n1_ n2_ n3_;clear hb hbox hg;have hcz6_0:w5.cell? ⟨gb211,0,none⟩=some (.slice A0_0 l0_0.length c0_0):=(blk_cell BK211.out 0).trans rfl;have hcz6_1:w5.cell? ⟨gb211,1,none⟩=some (.slice A0_1 l0_1.length c0_1):=(blk_cell BK211.out 1).trans rfl;have hfz6_0:=blk_frozen BK211.out 0;have hfz6_1:=blk_frozen BK211.out 1)|((with_reducible refine gate_callee (f:=31) rfl ?_);refine goesL_ (some 10) rfl rfl Try.func31 (by kernel_rfl) rfl #[.agg #[.slice A0_0 l0_0.length c0_0,.slice A0_1 l0_1.length c0_1]] rfl (by (try simp only [List.map_toArray,List.map_cons,List.map_nil]);first|done|rfl|(simp only [List.length_drop,List.length_take];rfl)) ?_;(with_reducible refine (wageofficeref42_Valid.calls k _ _ l0_0 _ _ l0_1 true _ ?side1 ?side2 ?side3 ?side4 A2.out).mono ?_);(case side1=>repeat (first|exact (Kd.C_below HR0_0.out HB.out)|(with_reducible refine Kd.C_alloc ?_ _)|(with_reducible refine Kd.C_drewN ?_ _)|(with_reducible refine Kd.C_drew ?_)));(case side2=>exact HC0_0.out);(case side3=>repeat (first|exact (Kd.C_below HR0_1.out HB.out)|(with_reducible refine Kd.C_alloc ?_ _)|(with_reducible refine Kd.C_drewN ?_ _)|(with_reducible refine Kd.C_drew ?_)));(case side4=>exact HC0_1.out);rintro e w7 ⟨rfl,hb⟩;refine ⟨_,rfl,?_⟩;have n0_:=Aside0.mk (blk_below (g:=gb211) (o:=.cells #[.slice A0_0 l0_0.length c0_0,.slice A0_1 l0_1.length c0_1] 25 (0,0)) (by (with_reducible repeat (first|refine blk_drewN ?_ _|refine blk_drew ?_|refine blk_alloc ?_ _));exact BK211.out) hb);have n1_:=Aside0.mk (below_step (by repeat (first|(with_reducible first|exact HB.out|apply below_alloc|apply pw_below_drewN|apply below_drew1|refine below_set ?_ GE211.out)|exact HB.out)) hb);clear BK211;clear HB;have BK211:=n0_;have HB:=n1_;clear n0_ n1_;(try clear hb);(try clear hb2);(try clear hk);(try clear hi);have hcz8_0:w7.cell? ⟨gb211,0,none⟩=some (.slice A0_0 l0_0.length c0_0):=(blk_cell BK211.out 0).trans rfl;have hcz8_1:w7.cell? ⟨gb211,1,none⟩=some (.slice A0_1 l0_1.length c0_1):=(blk_cell BK211.out 1).trans rfl;have hfz8_0:=blk_frozen BK211.out 0;have hfz8_1:=blk_frozen BK211.out 1)|((with_reducible refine gate_callee (f:=54) rfl ?_);refine goesL_ (some 13) rfl rfl Try.func54 (by kernel_rfl) rfl #[.agg #[.slice A0_0 l0_0.length c0_0,.slice A0_1 l0_1.length c0_1]] rfl (by (try simp only [List.map_toArray,List.map_cons,List.map_nil]);first|done|rfl|(simp only [List.length_drop,List.length_take];rfl)) ?_;(with_reducible refine (wageofficeref43_Bytes.calls _ _ l0_0 _ _ l0_1 t213 _ ?side1 ?side2 ?side3 ?side4 A4.out).mono ?_);(case side1=>repeat (first|exact (Kd.C_below HR0_0.out HB.out)|(with_reducible refine Kd.C_alloc ?_ _)|(with_reducible refine Kd.C_drewN ?_ _)|(with_reducible refine Kd.C_drew ?_)));(case side2=>exact HC0_0.out);(case side3=>repeat (first|exact (Kd.C_below HR0_1.out HB.out)|(with_reducible refine Kd.C_alloc ?_ _)|(with_reducible refine Kd.C_drewN ?_ _)|(with_reducible refine Kd.C_drew ?_)));(case side4=>exact HC0_1.out);rintro e w9 ⟨v214,rfl,ho0,hb⟩;refine ⟨_,rfl,?_⟩;have n0_:=Aside0.mk (Kd.Q_lower ho0 (below_size (by repeat (first|(with_reducible first|exact HB.out|apply below_alloc|apply pw_below_drewN|apply below_drew1|refine below_set ?_ GE211.out)|exact HB.out))));have n1_:=Aside0.mk (blk_below (g:=gb211) (o:=.cells #[.slice A0_0 l0_0.length c0_0,.slice A0_1 l0_1.length c0_1] 25 (0,0)) (by (with_reducible repeat (first|refine blk_drewN ?_ _|refine blk_drew ?_|refine blk_alloc ?_ _));exact BK211.out) hb);have n2_:=Aside0.mk (below_step (by repeat (first|(with_reducible first|exact HB.out|apply below_alloc|apply pw_below_drewN|apply below_drew1|refine below_set ?_ GE211.out)|exact HB.out)) hb);clear BK211;clear HB;have HO215:=n0_;have BK211:=n1_;have HB:=n2_;clear n0_ n1_ n2_;(try clear hb);(try clear hb2);(try clear hk);(try clear hi);(try clear ho0)))
   go_loopg [5,6] k (fun kq v5 v6 w'=>∃ (x5_1:List (List Int)) (x6_1:Int),v6=.int .i64 x6_1∧Aside0 (wageofficeref43_Records.l0 kq t213 x5_1 x6_1=some (r1,r2))∧Aside0 (kq ≤ k)∧Aside0 (Kd.Q (Kd.int .u8) 5 w' w.heap.size (fun _=>True) v214 t213)∧Aside0 (Kd.S (Kd.slice 5 (Kd.int .u8)) 22 w' w.heap.size (fun k_=>some k_ ≠ (v214:Value).ownBlock) v5 x5_1)∧Aside0 (w'.heap[gb211]? = some (.cells #[(.slice A0_0 l0_0.length c0_0),(.slice A0_1 l0_1.length c0_1)] 25 (0,0)))∧Aside0 (Below w.heap.size w w'))
   case atStart=>exact ⟨(([]:List (List Int))),(0),(by first|rfl|(simp;done)|(simp [*];done)),H',⟨Nat.le_refl _⟩,⟨by (with_reducible repeat (first|apply Kd.Q_alloc|apply Kd.Q_drewN|apply Kd.Q_drew));exact HO215.out⟩,⟨by first|exact Kd.S_nil _ _ _ _ _|exact Kd.N_nil _ _ _ _ _|exact Kd.V_nil _ _ _ _ _|exact Kd.Q_nil _ _ _ _ _|exact Kd.R_nil _ _ _ _ _⟩,⟨by (with_reducible repeat (first|refine blk_drewN ?_ _|refine blk_drew ?_|refine blk_alloc ?_ _));exact BK211.out⟩,⟨by repeat (first|(with_reducible first|exact HB.out|apply below_alloc|apply pw_below_drewN|apply below_drew1|refine below_set ?_ GE211.out)|exact HB.out)⟩⟩
   case round =>
    clear H'
    try clear p2
    try clear c3
    try clear c5
    try clear hcz6_0
    try clear hcz6_1
    try clear hcz8_0
    try clear hcz8_1
    try clear hfz6_0
    try clear hfz6_1
    try clear hfz8_0
    try clear hfz8_1
    obtain ⟨x5_1,x6_1,rfl,HA,HK1,HO_4,HO_5,BK211,HB⟩:=hrel
    cases gk with
    | zero=>exact absurd HA.out (by simp [wageofficeref43_Records.l0])
    | succ k1 =>
     have H:=HA.out
     clear HA
     simp only [wageofficeref43_Records.l0] at H
     replace H:=Option.bind_eq_some_iff.mp H
     obtain ⟨⟨t216,t217⟩,A100,H⟩:=H
     replace H:(if t217=true then (if x5_1.length < 5864062014805 then (wageofficeref43_Records.l0 k1 t213 (x5_1 ++ [t216]) (wrap64 (x6_1 + (wrap64 (13 + (t216.length:Int)))))) else (none)) else (some (x5_1,x6_1)))=some (r1,r2):=H
     have A10:=Aside0.mk A100
     clear A100
     by_cases c11:t217=true
     · subst c11
       have H1:(if x5_1.length < 5864062014805 then (wageofficeref43_Records.l0 k1 t213 (x5_1 ++ [t216]) (wrap64 (x6_1 + (wrap64 (13 + (t216.length:Int)))))) else (none))=some (r1,r2):=by rw [if_pos rfl] at H;exact H
       clear H
       have H:=H1
       clear H1
       by_cases c12:x5_1.length < 5864062014805
       · rw [if_pos c12] at H
         have LMc12:=Aside0.mk c12
         clear c12
         obtain ⟨y220,hy220⟩:∃ y_:List (List Int),y_=(x5_1 ++ [t216]):=⟨_,rfl⟩
         replace H:(wageofficeref43_Records.l0 k1 t213 y220 (wrap64 (x6_1 + (wrap64 (13 + (t216.length:Int))))))=some (r1,r2):=by first|(rw [hy220];with_reducible exact H)|(have H2_:=(Option.bind_some _ _).symm.trans H;rw [hy220];with_reducible exact H2_)|(have H2_:=(Option.bind_some _ _).symm.trans H;with_reducible exact H2_)|with_reducible exact H|(rw [hy220];exact H)|exact H
         have Ny220:=Aside0.mk hy220
         clear hy220
         have H':=Aside0.mk H
         clear H
         obtain ⟨Ao13,co13,eo13⟩:=Kd.S_slice HO_5.out
         subst eo13
         obtain ⟨Ao14,co14,eo14,_⟩:=Kd.Q_slice HO_4.out
         subst eo14
         go_wp2_with (first|((with_reducible refine gate_callee (f:=55) rfl ?_);refine goesL_ (some 19) rfl rfl Try.func55 (by kernel_rfl) rfl #[.slice Ao14 t213.length co14,.int .i64 x6_1,.int .i64 (x5_1.length:Int)] rfl (by (try simp only [List.map_toArray,List.map_cons,List.map_nil]);first|done|rfl|(simp only [List.length_drop,List.length_take];rfl)) ?_;(with_reducible refine (wageofficeref43_record.calls k1 _ _ t213 x6_1 (x5_1.length:Int) t216 true _ ?side1 ?side2 A10.out).mono ?_);(case side1=>repeat (first|exact (Kd.Q_reads' HO_4.out).2.2|(with_reducible refine Kd.C_alloc ?_ _)|(with_reducible refine Kd.C_drewN ?_ _)|(with_reducible refine Kd.C_drew ?_)));(case side2=>exact (Kd.Q_reads' HO_4.out).2.1);rintro e w15 ⟨v218,rfl,ho0,hb⟩;refine ⟨_,rfl,?_⟩;have n0_:=Aside0.mk (Kd.Q_elder' (by (with_reducible repeat (first|apply Kd.Q_alloc|apply Kd.Q_drewN|apply Kd.Q_drew));exact HO_4.out) (Kd.R_base ho0) hb);have n1_:=Aside0.mk (Kd.S_elder' (by (with_reducible repeat (first|apply Kd.S_alloc|apply Kd.S_drewN|apply Kd.S_drew));exact HO_5.out) (Kd.R_base ho0) hb);have n2_:=Aside0.mk (Kd.R_lower (Kd.R_new' ho0 (Kd.Q_lt (by (with_reducible repeat (first|apply Kd.Q_alloc|apply Kd.Q_drewN|apply Kd.Q_drew));exact HO_4.out))) (below_size (by repeat (first|(with_reducible first|exact HB.out|apply below_alloc|apply pw_below_drewN|apply below_drew1|refine below_set ?_ GE211.out)|exact HB.out))));have n3_:=Aside0.mk (blk_below (g:=gb211) (o:=.cells #[.slice A0_0 l0_0.length c0_0,.slice A0_1 l0_1.length c0_1] 25 (0,0)) (by (with_reducible repeat (first|refine blk_drewN ?_ _|refine blk_drew ?_|refine blk_alloc ?_ _));exact BK211.out) hb);have n4_:=Aside0.mk (below_step (by repeat (first|(with_reducible first|exact HB.out|apply below_alloc|apply pw_below_drewN|apply below_drew1|refine below_set ?_ GE211.out)|exact HB.out)) hb);clear HO_4;clear HO_5;clear BK211;clear HB;have HO_4:=n0_;have HO_5:=n1_;have HO219:=n2_;have BK211:=n3_;have HB:=n4_;clear n0_ n1_ n2_ n3_ n4_;(try clear hb);(try clear hb2);(try clear hk);(try clear hi);(try clear ho0);obtain ⟨Ao17,co17,eo17⟩:=Kd.R_slice HO219.out;subst eo17)|((with_reducible refine gate_builtin (b:=.append) (xs:=#[.tmp 26,.tmp 28]) rfl ?_);at_builtin;refine Kd.S_append (Kd.slice 5 (Kd.int .u8)) (w0:=w) w.heap.size rfl (.tmp 26) (.tmp 28) 49 22 (.slice none 0 0) 24 rfl Try.underlying49 info22 rfl (by decide) (by omega) (.slice Ao13 x5_1.length co13) x5_1 t216 [.slice Ao17 t216.length co17] (fun k_=>some k_ ≠ (.slice Ao14 t213.length co14:Value).ownBlock) (fun k_=>some k_=(.slice Ao17 t216.length co17:Value).ownBlock) rfl rfl ?aP (fun k_ hk_=>((Kd.R_mono (ok':=fun k_=>((fun k_=>some k_ ≠ (.slice Ao14 t213.length co14:Value).ownBlock)) k_∧some k_ ≠ (.slice Ao13 x5_1.length co13:Value).ownBlock) (Kd.R_apart' (HO219.out) (Kd.S_typed HO_5.out) (by decide)) (fun k_ hk=>⟨hk.1.2,hk.2⟩))).1 k_ hk_.symm) ?aF ?aO ?aB ?aS ?aL ?_;(case aP=>exact Kd.M_row (Kd.R_mono (Kd.R_tight rfl (Kd.R_mono (ok':=fun k_=>((fun k_=>some k_ ≠ (.slice Ao14 t213.length co14:Value).ownBlock)) k_∧some k_ ≠ (.slice Ao13 x5_1.length co13:Value).ownBlock) (Kd.R_apart' (HO219.out) (Kd.S_typed HO_5.out) (by decide)) (fun k_ hk=>⟨hk.1.2,hk.2⟩))) (fun _ h_=>h_)));(case aB=>exact (by repeat (first|(with_reducible first|exact HB.out|apply below_alloc|apply pw_below_drewN|apply below_drew1|refine below_set ?_ GE211.out)|exact HB.out)));(case aF=>exact (fun k_ hk=>Kd.fresh' (Kd.Q_lt (by (with_reducible repeat (first|apply Kd.Q_alloc|apply Kd.Q_drewN|apply Kd.Q_drew));exact HO_4.out)) k_ hk));(case aO=>exact (by (with_reducible repeat (first|apply Kd.S_alloc|apply Kd.S_drewN|apply Kd.S_drew));exact Kd.S_mono HO_5.out (fun k_ hk=>⟨hk.1,fun e_=>hk.2 e_⟩)));(case aS=>exact (below_size (by repeat (first|(with_reducible first|exact HB.out|apply below_alloc|apply pw_below_drewN|apply below_drew1|refine below_set ?_ GE211.out)|exact HB.out))));(case aL=>have:=LMc12.out;omega);intro v221 w16 ho hb hg hat;rw [← Ny220.out] at ho;have n0_:=Aside0.mk (Kd.Q_over' (by (with_reducible repeat (first|apply Kd.Q_alloc|apply Kd.Q_drewN|apply Kd.Q_drew));exact HO_4.out) (Kd.S_typed (by (with_reducible repeat (first|apply Kd.S_alloc|apply Kd.S_drewN|apply Kd.S_drew));exact HO_5.out)) (by decide) hg);have n1_:=Aside0.mk (blk_grown (g:=gb211) (o:=.cells #[.slice A0_0 l0_0.length c0_0,.slice A0_1 l0_1.length c0_1] 25 (0,0)) (by (with_reducible repeat (first|refine blk_drewN ?_ _|refine blk_drew ?_|refine blk_alloc ?_ _));exact BK211.out) hg (Kd.S_ne HO_5.out BK211.out (by decide)));have n2_:=Aside0.mk (hb);have n3_:=Aside0.mk (ho);clear HO_4;clear BK211;clear HB;clear HO_5;clear HO219;have HO_4:=n0_;have BK211:=n1_;have HB:=n2_;have HO222:=n3_;clear n0_ n1_ n2_ n3_;clear ho hb hg hat))
         go_roundg k1
         case measure=>have:=HK1.out;omega
         case rel=>exact ⟨(y220),(wrap64 (x6_1 + (wrap64 (13 + (t216.length:Int))))),(by first|rfl|(simp;done)|(simp [*];done)),H',⟨by have:=HK1.out;omega⟩,⟨by (with_reducible repeat (first|apply Kd.Q_alloc|apply Kd.Q_drewN|apply Kd.Q_drew));exact Kd.Q_mono HO_4.out (fun _ hk=>trivial)⟩,⟨by (with_reducible repeat (first|apply Kd.S_alloc|apply Kd.S_drewN|apply Kd.S_drew));exact HO222.out⟩,⟨by (with_reducible repeat (first|refine blk_drewN ?_ _|refine blk_drew ?_|refine blk_alloc ?_ _));exact BK211.out⟩,⟨by repeat (first|(with_reducible first|exact HB.out|apply below_alloc|apply pw_below_drewN|apply below_drew1|refine below_set ?_ GE211.out)|exact HB.out)⟩⟩
       · rw [if_neg c12] at H
         exact absurd H (by simp)
     · replace c11:=Bool.eq_false_iff.mpr c11
       subst c11
       have H1:(some (x5_1,x6_1))=some (r1,r2):=by rw [if_neg (show ¬ (false=true) by decide)] at H;exact H
       clear H
       have H:=H1
       clear H1
       simp only [Option.some.injEq,Prod.mk.injEq] at H
       obtain ⟨rfl,rfl⟩:=H
       obtain ⟨Ao18,co18,eo18⟩:=Kd.S_slice HO_5.out
       subst eo18
       obtain ⟨Ao19,co19,eo19,_⟩:=Kd.Q_slice HO_4.out
       subst eo19
       go_wp2_with (first|((with_reducible refine gate_callee (f:=55) rfl ?_);refine goesL_ (some 19) rfl rfl Try.func55 (by kernel_rfl) rfl #[.slice Ao19 t213.length co19,.int .i64 x6_1,.int .i64 (x5_1.length:Int)] rfl (by (try simp only [List.map_toArray,List.map_cons,List.map_nil]);first|done|rfl|(simp only [List.length_drop,List.length_take];rfl)) ?_;(with_reducible refine (wageofficeref43_record.calls k1 _ _ t213 x6_1 (x5_1.length:Int) t216 false _ ?side1 ?side2 A10.out).mono ?_);(case side1=>repeat (first|exact (Kd.Q_reads' HO_4.out).2.2|(with_reducible refine Kd.C_alloc ?_ _)|(with_reducible refine Kd.C_drewN ?_ _)|(with_reducible refine Kd.C_drew ?_)));(case side2=>exact (Kd.Q_reads' HO_4.out).2.1);rintro e w20 ⟨v218,rfl,ho0,hb⟩;refine ⟨_,rfl,?_⟩;have n0_:=Aside0.mk (Kd.Q_elder' (by (with_reducible repeat (first|apply Kd.Q_alloc|apply Kd.Q_drewN|apply Kd.Q_drew));exact HO_4.out) (Kd.R_base ho0) hb);have n1_:=Aside0.mk (Kd.S_elder' (by (with_reducible repeat (first|apply Kd.S_alloc|apply Kd.S_drewN|apply Kd.S_drew));exact HO_5.out) (Kd.R_base ho0) hb);have n2_:=Aside0.mk (Kd.R_lower (Kd.R_new' ho0 (Kd.Q_lt (by (with_reducible repeat (first|apply Kd.Q_alloc|apply Kd.Q_drewN|apply Kd.Q_drew));exact HO_4.out))) (below_size (by repeat (first|(with_reducible first|exact HB.out|apply below_alloc|apply pw_below_drewN|apply below_drew1|refine below_set ?_ GE211.out)|exact HB.out))));have n3_:=Aside0.mk (blk_below (g:=gb211) (o:=.cells #[.slice A0_0 l0_0.length c0_0,.slice A0_1 l0_1.length c0_1] 25 (0,0)) (by (with_reducible repeat (first|refine blk_drewN ?_ _|refine blk_drew ?_|refine blk_alloc ?_ _));exact BK211.out) hb);have n4_:=Aside0.mk (below_step (by repeat (first|(with_reducible first|exact HB.out|apply below_alloc|apply pw_below_drewN|apply below_drew1|refine below_set ?_ GE211.out)|exact HB.out)) hb);clear HO_4;clear HO_5;clear BK211;clear HB;have HO_4:=n0_;have HO_5:=n1_;have HO219:=n2_;have BK211:=n3_;have HB:=n4_;clear n0_ n1_ n2_ n3_ n4_;(try clear hb);(try clear hb2);(try clear hk);(try clear hi);(try clear ho0)))
       go_ret2
       exact ⟨_,by first|rfl|(simp [errW_none,errW_some] <;> rfl)|(simp [*,errW_none,errW_some] <;> rfl),by (with_reducible repeat (first|apply Kd.S_alloc|apply Kd.S_drewN|apply Kd.S_drew));exact Kd.S_mono HO_5.out (fun _ hk=>trivial),by repeat (first|(with_reducible first|exact HB.out|apply below_alloc|apply pw_below_drewN|apply below_drew1|refine below_set ?_ GE211.out)|exact HB.out)⟩
 · replace c3:=Bool.eq_false_iff.mpr c3
   subst c3
   have H1:(some (([]:List (List Int)),0))=some (r1,r2):=by rw [if_neg (show ¬ (false=true) by decide)] at H;exact H
   clear H
   have H:=H1
   clear H1
   simp only [Option.some.injEq,Prod.mk.injEq] at H
   obtain ⟨rfl,rfl⟩:=H
   go_enter Try.func37,Try.ntmps37
   go_wp2_with (first|((with_reducible refine gate_dst (N:=1) rfl ?_);refine box_event ?hg (N:=1) ?hd (cs:=#[.slice A0_0 l0_0.length c0_0,.slice A0_1 l0_1.length c0_1]) (t:=25) ?hr ?_;(case hd=>rfl);(case hg=>rfl);(case hr=>first|(go_simp;done)|(go_simp;rfl));intro gb211 hg w21 hbox hb;have n0_:=Aside0.mk (below_step (by repeat (first|(with_reducible first|exact HB.out|apply below_alloc|apply pw_below_drewN|apply below_drew1)|exact HB.out)) hb);have n1_:=Aside0.mk (hbox);have n2_:=Aside0.mk ((by rw [hg];exact (below_size (by repeat (first|(with_reducible first|exact HB.out|apply below_alloc|apply pw_below_drewN|apply below_drew1)|exact HB.out))):w.heap.size ≤ gb211));have n3_:=Aside0.mk ((by rw [hg];exact (below_size (by repeat (first|(with_reducible first|exact HB.out|apply below_alloc|apply pw_below_drewN|apply below_drew1)|exact HB.out))):w.heap.size ≤ gb211));clear HB;have HB:=n0_;have BK211:=n1_;have GW211:=n2_;have GE211:=n3_;clear n0_ n1_ n2_ n3_;clear hb hbox hg;have hcz22_0:w21.cell? ⟨gb211,0,none⟩=some (.slice A0_0 l0_0.length c0_0):=(blk_cell BK211.out 0).trans rfl;have hcz22_1:w21.cell? ⟨gb211,1,none⟩=some (.slice A0_1 l0_1.length c0_1):=(blk_cell BK211.out 1).trans rfl;have hfz22_0:=blk_frozen BK211.out 0;have hfz22_1:=blk_frozen BK211.out 1)|((with_reducible refine gate_callee (f:=31) rfl ?_);refine goesL_ (some 10) rfl rfl Try.func31 (by kernel_rfl) rfl #[.agg #[.slice A0_0 l0_0.length c0_0,.slice A0_1 l0_1.length c0_1]] rfl (by (try simp only [List.map_toArray,List.map_cons,List.map_nil]);first|done|rfl|(simp only [List.length_drop,List.length_take];rfl)) ?_;(with_reducible refine (wageofficeref42_Valid.calls k _ _ l0_0 _ _ l0_1 false _ ?side1 ?side2 ?side3 ?side4 A2.out).mono ?_);(case side1=>repeat (first|exact (Kd.C_below HR0_0.out HB.out)|(with_reducible refine Kd.C_alloc ?_ _)|(with_reducible refine Kd.C_drewN ?_ _)|(with_reducible refine Kd.C_drew ?_)));(case side2=>exact HC0_0.out);(case side3=>repeat (first|exact (Kd.C_below HR0_1.out HB.out)|(with_reducible refine Kd.C_alloc ?_ _)|(with_reducible refine Kd.C_drewN ?_ _)|(with_reducible refine Kd.C_drew ?_)));(case side4=>exact HC0_1.out);rintro e w23 ⟨rfl,hb⟩;refine ⟨_,rfl,?_⟩;have n0_:=Aside0.mk (blk_below (g:=gb211) (o:=.cells #[.slice A0_0 l0_0.length c0_0,.slice A0_1 l0_1.length c0_1] 25 (0,0)) (by (with_reducible repeat (first|refine blk_drewN ?_ _|refine blk_drew ?_|refine blk_alloc ?_ _));exact BK211.out) hb);have n1_:=Aside0.mk (below_step (by repeat (first|(with_reducible first|exact HB.out|apply below_alloc|apply pw_below_drewN|apply below_drew1|refine below_set ?_ GE211.out)|exact HB.out)) hb);clear BK211;clear HB;have BK211:=n0_;have HB:=n1_;clear n0_ n1_;(try clear hb);(try clear hb2);(try clear hk);(try clear hi)))
   go_ret2
   exact ⟨_,by first|rfl|(simp [errW_none,errW_some] <;> rfl)|(simp [*,errW_none,errW_some] <;> rfl),by first|exact Kd.S_nil _ _ _ _ _|exact Kd.N_nil _ _ _ _ _|exact Kd.V_nil _ _ _ _ _|exact Kd.Q_nil _ _ _ _ _|exact Kd.R_nil _ _ _ _ _,by repeat (first|(with_reducible first|exact HB.out|apply below_alloc|apply pw_below_drewN|apply below_drew1|refine below_set ?_ GE211.out)|exact HB.out)⟩
def wageofficeref43_Writes.f (k:Nat) (l0_0:List Int) (l0_1:List (S45)) (l1:List Int):Option ((List (S45))):=(wageofficeref43_Records.f k l0_0 l0_1).bind fun bt224=>((wageofficeref43_Code.f k l1 (bt224.1.length:Int)).bind fun t228=>(if 1 ≤ (t228.length:Int) then ((some (t228.drop 1:List Int)).bind fun y231=>(if ([]:List Int).length + y231.length < 140737488355328 then ((some (([]:List Int) ++ y231:List Int)).bind fun y236=>(if (wrap64 (bt224.2 + (t228.length:Int))) < (l0_0.length:Int) then (if y236.length < 140737488355328 then (some (([(⟨bt224.2,(([0]:List Int))⟩:S45),(⟨wrap64 (bt224.2 + 1),(y236 ++ [0])⟩:S45),(⟨bt224.2,(([82]:List Int))⟩:S45)]:List (S45)))) else (none)) else (some (([(⟨bt224.2,(([0]:List Int))⟩:S45),(⟨wrap64 (bt224.2 + 1),y236⟩:S45),(⟨bt224.2,(([82]:List Int))⟩:S45)]:List (S45)))))) else (none))) else (none)))
set_option maxHeartbeats 8000000 in
set_option maxRecDepth 100000 in
theorem wageofficeref43_Writes.calls (k:Nat) (A0_0:Option Addr) (c0_0:Nat) (l0_0:List Int) (A0_1:Option Addr) (c0_1:Nat) (l0_1:List (S45)) (A1:Option Addr) (c1:Nat) (l1:List Int) (r:List (S45)) (w:World) (hr0_0:Kd.C (Kd.int .u8) w A0_0 l0_0.length l0_0) (hc0_0:l0_0.length ≤ c0_0) (hr0_1:Kd.C k45 w A0_1 l0_1.length l0_1) (hc0_1:l0_1.length ≤ c0_1) (hr1:Kd.C (Kd.int .u8) w A1 l1.length l1) (hc1:l1.length ≤ c1) (h:wageofficeref43_Writes.f k l0_0 l0_1 l1=some r) :
 Calls Try.prog 42 #[.agg #[.slice A0_0 l0_0.length c0_0,.slice A0_1 l0_1.length c0_1],.slice A1 l1.length c1] w fun e w'=>∃ v0_:Value,e=.returned (v0_)∧Kd.N k45 45 w' w.heap.size (fun k_=>(w.heap.size ≤ k_)) v0_ r∧Below w.heap.size w w':=by
 have hu25:=Try.underlying25
 have hu45:=Try.underlying45
 have HR0_0:=Aside0.mk hr0_0
 have HC0_0:=Aside0.mk hc0_0
 clear hr0_0 hc0_0
 have HR0_1:=Aside0.mk hr0_1
 have HC0_1:=Aside0.mk hc0_1
 clear hr0_1 hc0_1
 have HR1:=Aside0.mk hr1
 have HC1:=Aside0.mk hc1
 clear hr1 hc1
 have HB:=Aside0.mk (Below.refl w.heap.size w)
 have H:((wageofficeref43_Records.f k l0_0 l0_1).bind fun bt224=>((wageofficeref43_Code.f k l1 (bt224.1.length:Int)).bind fun t228=>(if 1 ≤ (t228.length:Int) then ((some (t228.drop 1:List Int)).bind fun y231=>(if ([]:List Int).length + y231.length < 140737488355328 then ((some (([]:List Int) ++ y231:List Int)).bind fun y236=>(if (wrap64 (bt224.2 + (t228.length:Int))) < (l0_0.length:Int) then (if y236.length < 140737488355328 then (some (([(⟨bt224.2,(([0]:List Int))⟩:S45),(⟨wrap64 (bt224.2 + 1),(y236 ++ [0])⟩:S45),(⟨bt224.2,(([82]:List Int))⟩:S45)]:List (S45)))) else (none)) else (some (([(⟨bt224.2,(([0]:List Int))⟩:S45),(⟨wrap64 (bt224.2 + 1),y236⟩:S45),(⟨bt224.2,(([82]:List Int))⟩:S45)]:List (S45)))))) else (none))) else (none))))=some r:=h
 clear h
 replace H:=Option.bind_eq_some_iff.mp H
 obtain ⟨⟨t224,t227⟩,A30,H⟩:=H
 replace H:((wageofficeref43_Code.f k l1 (t224.length:Int)).bind fun t228=>(if 1 ≤ (t228.length:Int) then ((some (t228.drop 1:List Int)).bind fun y231=>(if ([]:List Int).length + y231.length < 140737488355328 then ((some (([]:List Int) ++ y231:List Int)).bind fun y236=>(if (wrap64 (t227 + (t228.length:Int))) < (l0_0.length:Int) then (if y236.length < 140737488355328 then (some (([(⟨t227,(([0]:List Int))⟩:S45),(⟨wrap64 (t227 + 1),(y236 ++ [0])⟩:S45),(⟨t227,(([82]:List Int))⟩:S45)]:List (S45)))) else (none)) else (some (([(⟨t227,(([0]:List Int))⟩:S45),(⟨wrap64 (t227 + 1),y236⟩:S45),(⟨t227,(([82]:List Int))⟩:S45)]:List (S45)))))) else (none))) else (none)))=some r:=H
 have A3:=Aside0.mk A30
 clear A30
 replace H:=Option.bind_eq_some_iff.mp H
 obtain ⟨t228,A40,H⟩:=H
 replace H:(if 1 ≤ (t228.length:Int) then ((some (t228.drop 1:List Int)).bind fun y231=>(if ([]:List Int).length + y231.length < 140737488355328 then ((some (([]:List Int) ++ y231:List Int)).bind fun y236=>(if (wrap64 (t227 + (t228.length:Int))) < (l0_0.length:Int) then (if y236.length < 140737488355328 then (some (([(⟨t227,(([0]:List Int))⟩:S45),(⟨wrap64 (t227 + 1),(y236 ++ [0])⟩:S45),(⟨t227,(([82]:List Int))⟩:S45)]:List (S45)))) else (none)) else (some (([(⟨t227,(([0]:List Int))⟩:S45),(⟨wrap64 (t227 + 1),y236⟩:S45),(⟨t227,(([82]:List Int))⟩:S45)]:List (S45)))))) else (none))) else (none))=some r:=H
 have A4:=Aside0.mk A40
 clear A40
 by_cases c5:1 ≤ (t228.length:Int)
 · rw [if_pos c5] at H
   have c5b0:=eq_true c5
   have c5b1:decide (1 ≤ (t228.length:Int))=true:=decide_eq_true c5
   clear c5
   obtain ⟨y231,hy231⟩:∃ y_:List Int,y_=(t228.drop 1):=⟨_,rfl⟩
   replace H:(if ([]:List Int).length + y231.length < 140737488355328 then ((some (([]:List Int) ++ y231:List Int)).bind fun y236=>(if (wrap64 (t227 + (t228.length:Int))) < (l0_0.length:Int) then (if y236.length < 140737488355328 then (some (([(⟨t227,(([0]:List Int))⟩:S45),(⟨wrap64 (t227 + 1),(y236 ++ [0])⟩:S45),(⟨t227,(([82]:List Int))⟩:S45)]:List (S45)))) else (none)) else (some (([(⟨t227,(([0]:List Int))⟩:S45),(⟨wrap64 (t227 + 1),y236⟩:S45),(⟨t227,(([82]:List Int))⟩:S45)]:List (S45)))))) else (none))=some r:=by first|(rw [hy231];with_reducible exact H)|(have H2_:=(Option.bind_some _ _).symm.trans H;rw [hy231];with_reducible exact H2_)|(have H2_:=(Option.bind_some _ _).symm.trans H;with_reducible exact H2_)|with_reducible exact H|(rw [hy231];exact H)|exact H
   have Ny231:=Aside0.mk hy231
   clear hy231
   by_cases c6:([]:List Int).length + y231.length < 140737488355328
   · rw [if_pos c6] at H
     have LMc6:=Aside0.mk c6
     clear c6
     obtain ⟨y236,hy236⟩:∃ y_:List Int,y_=(([]:List Int) ++ y231):=⟨_,rfl⟩
     replace H:(if (wrap64 (t227 + (t228.length:Int))) < (l0_0.length:Int) then (if y236.length < 140737488355328 then (some (([(⟨t227,(([0]:List Int))⟩:S45),(⟨wrap64 (t227 + 1),(y236 ++ [0])⟩:S45),(⟨t227,(([82]:List Int))⟩:S45)]:List (S45)))) else (none)) else (some (([(⟨t227,(([0]:List Int))⟩:S45),(⟨wrap64 (t227 + 1),y236⟩:S45),(⟨t227,(([82]:List Int))⟩:S45)]:List (S45)))))=some r:=by first|(rw [hy236];with_reducible exact H)|(have H2_:=(Option.bind_some _ _).symm.trans H;rw [hy236];with_reducible exact H2_)|(have H2_:=(Option.bind_some _ _).symm.trans H;with_reducible exact H2_)|with_reducible exact H|(rw [hy236];exact H)|exact H
     have Ny236:=Aside0.mk hy236
     clear hy236
     by_cases c7:(wrap64 (t227 + (t228.length:Int))) < (l0_0.length:Int)
     · rw [if_pos c7] at H
       have c7b0:decide ((wrap64 (t227 + (t228.length:Int))) < (l0_0.length:Int))=true:=decide_eq_true c7
       clear c7
       by_cases c8:y236.length < 140737488355328
       · rw [if_pos c8] at H
         have LMc8:=Aside0.mk c8
         clear c8
         obtain ⟨y239,hy239⟩:∃ y_:List Int,y_=(y236 ++ [0]):=⟨_,rfl⟩
         replace H:(some (([(⟨t227,(([0]:List Int))⟩:S45),(⟨wrap64 (t227 + 1),y239⟩:S45),(⟨t227,(([82]:List Int))⟩:S45)]:List (S45))))=some r:=by first|(rw [hy239];with_reducible exact H)|(have H2_:=(Option.bind_some _ _).symm.trans H;rw [hy239];with_reducible exact H2_)|(have H2_:=(Option.bind_some _ _).symm.trans H;with_reducible exact H2_)|with_reducible exact H|(rw [hy239];exact H)|exact H
         have Ny239:=Aside0.mk hy239
         clear hy239
         obtain ⟨y242,hy242⟩:∃ y_:List Int,y_=(([0]:List Int)):=⟨_,rfl⟩
         replace H:(some (([(⟨t227,y242⟩:S45),(⟨wrap64 (t227 + 1),y239⟩:S45),(⟨t227,(([82]:List Int))⟩:S45)]:List (S45))))=some r:=by first|(rw [hy242];with_reducible exact H)|(have H2_:=(Option.bind_some _ _).symm.trans H;rw [hy242];with_reducible exact H2_)|(have H2_:=(Option.bind_some _ _).symm.trans H;with_reducible exact H2_)|with_reducible exact H|(rw [hy242];exact H)|exact H
         have Ny242:=Aside0.mk hy242
         clear hy242
         obtain ⟨y245,hy245⟩:∃ y_:List Int,y_=(([82]:List Int)):=⟨_,rfl⟩
         replace H:(some (([(⟨t227,y242⟩:S45),(⟨wrap64 (t227 + 1),y239⟩:S45),(⟨t227,y245⟩:S45)]:List (S45))))=some r:=by first|(rw [hy245];with_reducible exact H)|(have H2_:=(Option.bind_some _ _).symm.trans H;rw [hy245];with_reducible exact H2_)|(have H2_:=(Option.bind_some _ _).symm.trans H;with_reducible exact H2_)|with_reducible exact H|(rw [hy245];exact H)|exact H
         have Ny245:=Aside0.mk hy245
         clear hy245
         obtain ⟨y248,hy248⟩:∃ y_:List (S45),y_=(([(⟨t227,y242⟩:S45),(⟨wrap64 (t227 + 1),y239⟩:S45),(⟨t227,y245⟩:S45)]:List (S45))):=⟨_,rfl⟩
         replace H:(some y248)=some r:=by first|(rw [hy248];with_reducible exact H)|(have H2_:=(Option.bind_some _ _).symm.trans H;rw [hy248];with_reducible exact H2_)|(have H2_:=(Option.bind_some _ _).symm.trans H;with_reducible exact H2_)|with_reducible exact H|(rw [hy248];exact H)|exact H
         have Ny248:=Aside0.mk hy248
         clear hy248
         obtain rfl:=Option.some.inj H
         go_enter Try.func42,Try.ntmps42
         go_wp2_with (first|((with_reducible refine gate_dst (N:=2) rfl ?_);refine box_event ?hg (N:=2) ?hd (cs:=#[.slice A0_0 l0_0.length c0_0,.slice A0_1 l0_1.length c0_1]) (t:=25) ?hr ?_;(case hd=>rfl);(case hg=>rfl);(case hr=>first|(go_simp;done)|(go_simp;rfl));intro gb223 hg w9 hbox hb;have n0_:=Aside0.mk (below_step (by repeat (first|(with_reducible first|exact HB.out|apply below_alloc|apply pw_below_drewN|apply below_drew1)|exact HB.out)) hb);have n1_:=Aside0.mk (hbox);have n2_:=Aside0.mk ((by rw [hg];exact (below_size (by repeat (first|(with_reducible first|exact HB.out|apply below_alloc|apply pw_below_drewN|apply below_drew1)|exact HB.out))):w.heap.size ≤ gb223));have n3_:=Aside0.mk ((by rw [hg];exact (below_size (by repeat (first|(with_reducible first|exact HB.out|apply below_alloc|apply pw_below_drewN|apply below_drew1)|exact HB.out))):w.heap.size ≤ gb223));clear HB;have HB:=n0_;have BK223:=n1_;have GW223:=n2_;have GE223:=n3_;clear n0_ n1_ n2_ n3_;clear hb hbox hg;have hcz10_0:w9.cell? ⟨gb223,0,none⟩=some (.slice A0_0 l0_0.length c0_0):=(blk_cell BK223.out 0).trans rfl;have hcz10_1:w9.cell? ⟨gb223,1,none⟩=some (.slice A0_1 l0_1.length c0_1):=(blk_cell BK223.out 1).trans rfl;have hfz10_0:=blk_frozen BK223.out 0;have hfz10_1:=blk_frozen BK223.out 1)|((with_reducible refine gate_callee (f:=37) rfl ?_);refine goesL_ (some 11) rfl rfl Try.func37 (by kernel_rfl) rfl #[.agg #[.slice A0_0 l0_0.length c0_0,.slice A0_1 l0_1.length c0_1]] rfl (by (try simp only [List.map_toArray,List.map_cons,List.map_nil]);first|done|rfl|(simp only [List.length_drop,List.length_take];rfl)) ?_;(with_reducible refine (wageofficeref43_Records.calls k _ _ l0_0 _ _ l0_1 t224 t227 _ ?side1 ?side2 ?side3 ?side4 A3.out).mono ?_);(case side1=>repeat (first|exact (Kd.C_below HR0_0.out HB.out)|(with_reducible refine Kd.C_alloc ?_ _)|(with_reducible refine Kd.C_drewN ?_ _)|(with_reducible refine Kd.C_drew ?_)));(case side2=>exact HC0_0.out);(case side3=>repeat (first|exact (Kd.C_below HR0_1.out HB.out)|(with_reducible refine Kd.C_alloc ?_ _)|(with_reducible refine Kd.C_drewN ?_ _)|(with_reducible refine Kd.C_drew ?_)));(case side4=>exact HC0_1.out);rintro e w11 ⟨v225,rfl,ho0,hb⟩;refine ⟨_,rfl,?_⟩;have n0_:=Aside0.mk (Kd.N_lower (Kd.N_mono (ok':=fun k_=>(w.heap.size ≤ k_)∧k_ ≠ gb223) (Kd.S_N (Kd.S_bound ho0)) (fun k_ hk_=>⟨(Nat.le_trans (below_size (by repeat (first|(with_reducible first|exact HB.out|apply below_alloc|apply pw_below_drewN|apply below_drew1|refine below_set ?_ GE223.out)|exact HB.out))) hk_.2.1),(Kd.freshB (g:=gb223) (o:=.cells #[.slice A0_0 l0_0.length c0_0,.slice A0_1 l0_1.length c0_1] 25 (0,0)) (by (with_reducible repeat (first|refine blk_drewN ?_ _|refine blk_drew ?_|refine blk_alloc ?_ _));exact BK223.out) k_ hk_.2.1)⟩)) (below_size (by repeat (first|(with_reducible first|exact HB.out|apply below_alloc|apply pw_below_drewN|apply below_drew1|refine below_set ?_ GE223.out)|exact HB.out))));have n1_:=Aside0.mk (blk_below (g:=gb223) (o:=.cells #[.slice A0_0 l0_0.length c0_0,.slice A0_1 l0_1.length c0_1] 25 (0,0)) (by (with_reducible repeat (first|refine blk_drewN ?_ _|refine blk_drew ?_|refine blk_alloc ?_ _));exact BK223.out) hb);have n2_:=Aside0.mk (below_step (by repeat (first|(with_reducible first|exact HB.out|apply below_alloc|apply pw_below_drewN|apply below_drew1|refine below_set ?_ GE223.out)|exact HB.out)) hb);clear BK223;clear HB;have HO226:=n0_;have BK223:=n1_;have HB:=n2_;clear n0_ n1_ n2_;(try clear hb);(try clear hb2);(try clear hk);(try clear hi);(try clear ho0);obtain ⟨Ao12,co12,eo12⟩:=Kd.N_slice HO226.out;subst eo12)|((with_reducible refine gate_callee (f:=56) rfl ?_);refine goesL_ (some 17) rfl rfl Try.func56 (by kernel_rfl) rfl #[.slice A1 l1.length c1,.int .i64 (t224.length:Int)] rfl (by (try simp only [List.map_toArray,List.map_cons,List.map_nil]);first|done|rfl|(simp only [List.length_drop,List.length_take];rfl)) ?_;(with_reducible refine (wageofficeref43_Code.calls k _ _ l1 (t224.length:Int) t228 _ ?side1 ?side2 A4.out).mono ?_);(case side1=>repeat (first|exact (Kd.C_below HR1.out HB.out)|(with_reducible refine Kd.C_alloc ?_ _)|(with_reducible refine Kd.C_drewN ?_ _)|(with_reducible refine Kd.C_drew ?_)));(case side2=>exact HC1.out);rintro e w13 ⟨v229,rfl,ho0,hb⟩;refine ⟨_,rfl,?_⟩;have n0_:=Aside0.mk (Kd.N_elder' (by (with_reducible repeat (first|apply Kd.N_alloc|apply Kd.N_drewN|apply Kd.N_drew));exact HO226.out) (Kd.R_base ho0) hb);have n1_:=Aside0.mk (Kd.R_lower (Kd.R_newM (M:=fun k_=>(w.heap.size ≤ k_)) ho0 (below_size (by repeat (first|(with_reducible first|exact HB.out|apply below_alloc|apply pw_below_drewN|apply below_drew1|refine below_set ?_ GE223.out)|exact HB.out))) (fun k_ h_=>h_)) (below_size (by repeat (first|(with_reducible first|exact HB.out|apply below_alloc|apply pw_below_drewN|apply below_drew1|refine below_set ?_ GE223.out)|exact HB.out))));have n2_:=Aside0.mk (blk_below (g:=gb223) (o:=.cells #[.slice A0_0 l0_0.length c0_0,.slice A0_1 l0_1.length c0_1] 25 (0,0)) (by (with_reducible repeat (first|refine blk_drewN ?_ _|refine blk_drew ?_|refine blk_alloc ?_ _));exact BK223.out) hb);have n3_:=Aside0.mk (below_step (by repeat (first|(with_reducible first|exact HB.out|apply below_alloc|apply pw_below_drewN|apply below_drew1|refine below_set ?_ GE223.out)|exact HB.out)) hb);clear HO226;clear BK223;clear HB;have HO226:=n0_;have HO230:=n1_;have BK223:=n2_;have HB:=n3_;clear n0_ n1_ n2_ n3_;(try clear hb);(try clear hb2);(try clear hk);(try clear hi);(try clear ho0);obtain ⟨Ao15,co15,eo15⟩:=Kd.R_slice HO230.out;subst eo15;have q14:(1:Int) ≤ ((t228.length:Int):Int):=of_decide_eq_true (by first|(with_reducible assumption)|assumption);obtain ⟨i014,hi014,_,hsz14,_⟩:=info_parts info5;have hroom14:t228.length ≤ co15:=(Kd.R_reads' HO230.out).2.1;have hC14:Kd.F (Kd.int .u8) _ _ Ao15 t228.length t228:=(Kd.V_at (base:=w.heap.size) (Kd.R_V (Kd.R_types (Kd.R_apart' (HO230.out) (Kd.N_typed HO226.out) (by decide)) BK223.out (by decide)))).2.2;have hcut14:=cut_from (P:=Try.prog) 22 5 .i64 Try.underlying22 hi014 1 hsz14 Ao15 t228.length co15 1 (by omega) q14;have hr14:=Kd.F_cut (m:=(1:Int).toNat) (c:=co15) hC14 (by omega) hroom14;obtain ⟨A14,hA14⟩:∃ A1,A1=(if co15=(1:Int).toNat then Ao15 else (Ao15:Option Addr).map (·.add ((1:Int).toNat * 1))):=⟨_,rfl⟩;obtain ⟨c14,hc14⟩:∃ c1,c1=co15 - (1:Int).toNat:=⟨_,rfl⟩;have hy14:y231.length=t228.length - (1:Int).toNat:=(by rw [Ny231.out,List.length_drop] <;> omega);rw [show (t228).drop (1:Int).toNat=y231 from Ny231.out.symm] at hr14;replace hr14:Kd.F (Kd.int .u8) _ _ A14 y231.length y231:=(by rw [hA14];exact hr14);rw [← hy14,← hA14,← hc14] at hcut14;have HO235:=Aside0.mk (show Kd.V (Kd.int .u8) 5 _ w.heap.size _ (.slice A14 y231.length c14) y231 from Kd.V_mk (by rw [hy14,hc14];exact Nat.sub_le_sub_right hroom14 _) hr14);have HC235:=Aside0.mk (show y231.length ≤ c14 from by rw [hy14,hc14];exact Nat.sub_le_sub_right hroom14 _);clear hr14 hC14 hroom14 hi014 hsz14 hc14;have KY14:=Aside0.mk hy14;have KA14:=Aside0.mk hA14;clear hy14 hA14;replace q14:=eq_true q14)|((with_reducible refine gate_builtin (b:=.append) (xs:=#[.tmp 18,.tmp 20]) rfl ?_);at_builtin;refine Kd.R_append_rows (Kd.int .u8) (w0:=w) w.heap.size rfl (.tmp 18) (.tmp 20) 22 5 (.int .u8 0) 1 rfl Try.underlying22 info5 rfl (by decide) (by omega) (.slice none 0 0) ([]:List Int) y231 _ _ _ (fun k_=>(w.heap.size ≤ k_)∧some k_ ≠ (.slice Ao15 t228.length co15:Value).ownBlock) (fun _=>False) rfl rfl ?aO ?aR (fun _ _ h=>h) (fun _ h=>h.elim) ?aF ?aB ?aS ?aL ?_;(case aR=>repeat (first|exact (Kd.V_reads' HO235.out).2.2|(with_reducible refine Kd.C_alloc ?_ _)|(with_reducible refine Kd.C_drewN ?_ _)|(with_reducible refine Kd.C_drew ?_)));(case aB=>exact (by repeat (first|(with_reducible first|exact HB.out|apply below_alloc|apply pw_below_drewN|apply below_drew1|refine below_set ?_ GE223.out)|exact HB.out)));(case aF=>exact (fun k_ hk=>⟨(Nat.le_trans (below_size (by repeat (first|(with_reducible first|exact HB.out|apply below_alloc|apply pw_below_drewN|apply below_drew1|refine below_set ?_ GE223.out)|exact HB.out))) hk),Kd.fresh' (Kd.R_lt (by (with_reducible repeat (first|apply Kd.R_alloc|apply Kd.R_drewN|apply Kd.R_drew));exact HO230.out)) k_ hk⟩));(case aO=>exact ((Kd.R_nil _ _ _ _ (fun k_=>(w.heap.size ≤ k_)∧some k_ ≠ (.slice Ao15 t228.length co15:Value).ownBlock))));(case aS=>exact (below_size (by repeat (first|(with_reducible first|exact HB.out|apply below_alloc|apply pw_below_drewN|apply below_drew1|refine below_set ?_ GE223.out)|exact HB.out))));(case aL=>have:=LMc6.out;omega);intro v237 w16 ho hb hg hat;rw [← Ny236.out] at ho;have n0_:=Aside0.mk (blk_grown (g:=gb223) (o:=.cells #[.slice A0_0 l0_0.length c0_0,.slice A0_1 l0_1.length c0_1] 25 (0,0)) (by (with_reducible repeat (first|refine blk_drewN ?_ _|refine blk_drew ?_|refine blk_alloc ?_ _));exact BK223.out) hg (by simp [Value.ownBlock]));have n1_:=Aside0.mk (Kd.N_afterv (Kd.N_apart_nil (by (with_reducible repeat (first|apply Kd.N_alloc|apply Kd.N_drewN|apply Kd.N_drew));exact HO226.out)) hg hat);have n2_:=Aside0.mk (Kd.R_after (Kd.R_apart_nil (by (with_reducible repeat (first|apply Kd.R_alloc|apply Kd.R_drewN|apply Kd.R_drew));exact HO230.out)) hg hat);have n3_:=Aside0.mk (Kd.V_afterv (Kd.V_apart_nil (by (with_reducible repeat (first|apply Kd.V_alloc|apply Kd.V_drewN|apply Kd.V_drew));exact HO235.out)) hg hat);have n4_:=Aside0.mk (hb);have n5_:=Aside0.mk (ho);clear BK223;clear HO226;clear HO230;clear HO235;clear HB;have BK223:=n0_;have HO226:=n1_;have HO230:=n2_;have HO235:=n3_;have HB:=n4_;have HO238:=n5_;clear n0_ n1_ n2_ n3_ n4_ n5_;clear ho hb hg hat;have hcz17_0:w16.cell? ⟨gb223,0,none⟩=some (.slice A0_0 l0_0.length c0_0):=(blk_cell BK223.out 0).trans rfl;have hcz17_1:w16.cell? ⟨gb223,1,none⟩=some (.slice A0_1 l0_1.length c0_1):=(blk_cell BK223.out 1).trans rfl;have hfz17_0:=blk_frozen BK223.out 0;have hfz17_1:=blk_frozen BK223.out 1)|((with_reducible refine gate_builtin (b:=.append) (xs:=#[.tmp 30,.tmp 31]) rfl ?_);at_builtin;refine Kd.R_append (Kd.int .u8) (w0:=w) w.heap.size rfl (.tmp 30) (.tmp 31) 22 5 (.int .u8 0) 1 rfl Try.underlying22 info5 rfl (by decide) (by omega) v237 y236 0 [.int .u8 0] (fun k_=>(w.heap.size ≤ k_)∧some k_ ≠ (.slice Ao15 t228.length co15:Value).ownBlock) (fun _=>False) rfl rfl ?aP (fun _ hk=>hk.elim) ?aF ?aO ?aB ?aS ?aL ?_;(case aP=>exact rfl);(case aB=>exact (by repeat (first|(with_reducible first|exact HB.out|apply below_alloc|apply pw_below_drewN|apply below_drew1|refine below_set ?_ GE223.out)|exact HB.out)));(case aF=>exact (fun k_ hk=>⟨(Nat.le_trans (below_size (by repeat (first|(with_reducible first|exact HB.out|apply below_alloc|apply pw_below_drewN|apply below_drew1|refine below_set ?_ GE223.out)|exact HB.out))) hk),Kd.fresh' (Kd.R_lt (by (with_reducible repeat (first|apply Kd.R_alloc|apply Kd.R_drewN|apply Kd.R_drew));exact HO230.out)) k_ hk⟩));(case aO=>exact (by (with_reducible repeat (first|apply Kd.R_alloc|apply Kd.R_drewN|apply Kd.R_drew));exact HO238.out));(case aS=>exact (below_size (by repeat (first|(with_reducible first|exact HB.out|apply below_alloc|apply pw_below_drewN|apply below_drew1|refine below_set ?_ GE223.out)|exact HB.out))));(case aL=>have:=LMc8.out;omega);intro v240 w18 ho hb hg hat;rw [← Ny239.out] at ho;have n0_:=Aside0.mk (blk_grown (g:=gb223) (o:=.cells #[.slice A0_0 l0_0.length c0_0,.slice A0_1 l0_1.length c0_1] 25 (0,0)) (by (with_reducible repeat (first|refine blk_drewN ?_ _|refine blk_drew ?_|refine blk_alloc ?_ _));exact BK223.out) hg (Kd.R_ne HO238.out BK223.out (by decide)));have n1_:=Aside0.mk (Kd.N_afterv (ok:=(fun k_=>(w.heap.size ≤ k_)∧some k_ ≠ (.slice Ao15 t228.length co15:Value).ownBlock∧k_ ≠ gb223)) (by (with_reducible repeat (first|apply Kd.N_alloc|apply Kd.N_drewN|apply Kd.N_drew));exact Kd.N_mono HO226.out (fun _ hk=>⟨⟨hk.1.1.1,⟨hk.1.2,hk.1.1.2⟩⟩,hk.2⟩)) hg hat);have n2_:=Aside0.mk (Kd.R_after (ok:=(fun k_=>(w.heap.size ≤ k_))) (by (with_reducible repeat (first|apply Kd.R_alloc|apply Kd.R_drewN|apply Kd.R_drew));exact Kd.R_mono HO230.out (fun _ hk=>⟨hk.1.1,hk.2⟩)) hg hat);have n3_:=Aside0.mk (Kd.V_afterv (ok:=(fun k_=>(w.heap.size ≤ k_)∧some k_ ≠ (.slice Ao12 t224.length co12:Value).ownBlock∧k_ ≠ gb223)) (by (with_reducible repeat (first|apply Kd.V_alloc|apply Kd.V_drewN|apply Kd.V_drew));exact Kd.V_mono HO235.out (fun _ hk=>⟨⟨hk.1.1.1.1,⟨hk.1.1.2,hk.1.2⟩⟩,hk.2⟩)) hg hat);have n4_:=Aside0.mk (hb);have n5_:=Aside0.mk (ho);clear BK223;clear HO226;clear HO230;clear HO235;clear HB;clear HO238;have BK223:=n0_;have HO226:=n1_;have HO230:=n2_;have HO235:=n3_;have HB:=n4_;have HO241:=n5_;clear n0_ n1_ n2_ n3_ n4_ n5_;clear ho hb hg hat)|((with_reducible refine gate_dst (N:=34) rfl ?_);refine Kd.R_lit (Kd.int .u8) _ 5 ?hg (N:=34) ?hd (xs:=([0]:List Int)) (inner:=[.int .u8 0]) (ok:=fun _=>True) (okp:=fun _=>True) ?hr ?hp (fun _ hk=>hk) trivial (Below.refl _ _) (Nat.le_refl _) (by simp) ?_;(case hd=>rfl);(case hg=>rfl);(case hr=>first|(go_simp;done)|(go_simp;rfl));(case hp=>exact (Reps.one (show Kd.M (Kd.int .u8) _ _ _ 0 [.int .u8 0] from rfl) (Reps.none _ _)));intro v243 w19 ho20 hb hg_ hnew_;clear hg_ hnew_;(first|rw [← Ny242.out] at ho20|(simp only [Int.reduceToNat] at ho20;rw [← Ny242.out] at ho20));have n0_:=Aside0.mk (Kd.N_elder' (by (with_reducible repeat (first|apply Kd.N_alloc|apply Kd.N_drewN|apply Kd.N_drew));exact HO226.out) (Kd.R_base ho20) hb);have n1_:=Aside0.mk (Kd.R_elder' (by (with_reducible repeat (first|apply Kd.R_alloc|apply Kd.R_drewN|apply Kd.R_drew));exact HO230.out) (Kd.R_base ho20) hb);have n2_:=Aside0.mk (Kd.V_elder' (by (with_reducible repeat (first|apply Kd.V_alloc|apply Kd.V_drewN|apply Kd.V_drew));exact HO235.out) (Kd.R_base ho20) hb);have n3_:=Aside0.mk (Kd.R_elder' (by (with_reducible repeat (first|apply Kd.R_alloc|apply Kd.R_drewN|apply Kd.R_drew));exact HO241.out) (Kd.R_base ho20) hb);have n4_:=Aside0.mk (Kd.R_lower (Kd.R_new' (Kd.R_new' (Kd.R_newM (M:=fun k_=>(w.heap.size ≤ k_)) ho20 (below_size (by repeat (first|(with_reducible first|exact HB.out|apply below_alloc|apply pw_below_drewN|apply below_drew1|refine below_set ?_ GE223.out)|exact HB.out))) (fun k_ h_=>h_)) (Kd.R_lt (by (with_reducible repeat (first|apply Kd.R_alloc|apply Kd.R_drewN|apply Kd.R_drew));exact HO230.out))) (Kd.R_lt (by (with_reducible repeat (first|apply Kd.R_alloc|apply Kd.R_drewN|apply Kd.R_drew));exact HO241.out))) (below_size (by repeat (first|(with_reducible first|exact HB.out|apply below_alloc|apply pw_below_drewN|apply below_drew1|refine below_set ?_ GE223.out)|exact HB.out))));have n5_:=Aside0.mk (blk_below (g:=gb223) (o:=.cells #[.slice A0_0 l0_0.length c0_0,.slice A0_1 l0_1.length c0_1] 25 (0,0)) (by (with_reducible repeat (first|refine blk_drewN ?_ _|refine blk_drew ?_|refine blk_alloc ?_ _));exact BK223.out) hb);have n6_:=Aside0.mk (below_step (by repeat (first|(with_reducible first|exact HB.out|apply below_alloc|apply pw_below_drewN|apply below_drew1|refine below_set ?_ GE223.out)|exact HB.out)) hb);clear HO226;clear HO230;clear HO235;clear HO241;clear BK223;clear HB;have HO226:=n0_;have HO230:=n1_;have HO235:=n2_;have HO241:=n3_;have HO244:=n4_;have BK223:=n5_;have HB:=n6_;clear n0_ n1_ n2_ n3_ n4_ n5_ n6_;clear hb ho20;obtain ⟨Ao21,co21,eo21⟩:=Kd.R_slice HO244.out;subst eo21;obtain ⟨Ao22,co22,eo22⟩:=Kd.R_slice HO241.out;subst eo22)|((with_reducible refine gate_dst (N:=41) rfl ?_);refine Kd.R_lit (Kd.int .u8) _ 5 ?hg (N:=41) ?hd (xs:=([82]:List Int)) (inner:=[.int .u8 82]) (ok:=fun _=>True) (okp:=fun _=>True) ?hr ?hp (fun _ hk=>hk) trivial (Below.refl _ _) (Nat.le_refl _) (by simp) ?_;(case hd=>rfl);(case hg=>rfl);(case hr=>first|(go_simp;done)|(go_simp;rfl));(case hp=>exact (Reps.one (show Kd.M (Kd.int .u8) _ _ _ 82 [.int .u8 82] from rfl) (Reps.none _ _)));intro v246 w23 ho24 hb hg_ hnew_;clear hg_ hnew_;(first|rw [← Ny245.out] at ho24|(simp only [Int.reduceToNat] at ho24;rw [← Ny245.out] at ho24));have n0_:=Aside0.mk (Kd.N_elder' (by (with_reducible repeat (first|apply Kd.N_alloc|apply Kd.N_drewN|apply Kd.N_drew));exact HO226.out) (Kd.R_base ho24) hb);have n1_:=Aside0.mk (Kd.R_elder' (by (with_reducible repeat (first|apply Kd.R_alloc|apply Kd.R_drewN|apply Kd.R_drew));exact HO230.out) (Kd.R_base ho24) hb);have n2_:=Aside0.mk (Kd.V_elder' (by (with_reducible repeat (first|apply Kd.V_alloc|apply Kd.V_drewN|apply Kd.V_drew));exact HO235.out) (Kd.R_base ho24) hb);have n3_:=Aside0.mk (Kd.R_elder' (by (with_reducible repeat (first|apply Kd.R_alloc|apply Kd.R_drewN|apply Kd.R_drew));exact HO241.out) (Kd.R_base ho24) hb);have n4_:=Aside0.mk (Kd.R_elder' (by (with_reducible repeat (first|apply Kd.R_alloc|apply Kd.R_drewN|apply Kd.R_drew));exact HO244.out) (Kd.R_base ho24) hb);have n5_:=Aside0.mk (Kd.R_lower (Kd.R_new' (Kd.R_new' (Kd.R_new' (Kd.R_newM (M:=fun k_=>(w.heap.size ≤ k_)) ho24 (below_size (by repeat (first|(with_reducible first|exact HB.out|apply below_alloc|apply pw_below_drewN|apply below_drew1|refine below_set ?_ GE223.out)|exact HB.out))) (fun k_ h_=>h_)) (Kd.R_lt (by (with_reducible repeat (first|apply Kd.R_alloc|apply Kd.R_drewN|apply Kd.R_drew));exact HO230.out))) (Kd.R_lt (by (with_reducible repeat (first|apply Kd.R_alloc|apply Kd.R_drewN|apply Kd.R_drew));exact HO241.out))) (Kd.R_lt (by (with_reducible repeat (first|apply Kd.R_alloc|apply Kd.R_drewN|apply Kd.R_drew));exact HO244.out))) (below_size (by repeat (first|(with_reducible first|exact HB.out|apply below_alloc|apply pw_below_drewN|apply below_drew1|refine below_set ?_ GE223.out)|exact HB.out))));have n6_:=Aside0.mk (blk_below (g:=gb223) (o:=.cells #[.slice A0_0 l0_0.length c0_0,.slice A0_1 l0_1.length c0_1] 25 (0,0)) (by (with_reducible repeat (first|refine blk_drewN ?_ _|refine blk_drew ?_|refine blk_alloc ?_ _));exact BK223.out) hb);have n7_:=Aside0.mk (below_step (by repeat (first|(with_reducible first|exact HB.out|apply below_alloc|apply pw_below_drewN|apply below_drew1|refine below_set ?_ GE223.out)|exact HB.out)) hb);clear HO226;clear HO230;clear HO235;clear HO241;clear HO244;clear BK223;clear HB;have HO226:=n0_;have HO230:=n1_;have HO235:=n2_;have HO241:=n3_;have HO244:=n4_;have HO247:=n5_;have BK223:=n6_;have HB:=n7_;clear n0_ n1_ n2_ n3_ n4_ n5_ n6_ n7_;clear hb ho24;obtain ⟨Ao25,co25,eo25⟩:=Kd.R_slice HO247.out;subst eo25)|((with_reducible refine gate_dst (N:=43) rfl ?_);refine Kd.N_lit k45 _ 45 ?hg (N':=43) ?hd (xs:=([(⟨t227,y242⟩:S45),(⟨wrap64 (t227 + 1),y239⟩:S45),(⟨t227,y245⟩:S45)]:List (S45))) (inner:=[.int .i64 t227,.slice Ao21 y242.length co21,.int .i64 (wrap64 (t227 + 1)),.slice Ao22 y239.length co22,.int .i64 t227,.slice Ao25 y245.length co25]) (ok:=(fun k_=>(w.heap.size ≤ k_)∧some k_ ≠ (.slice Ao12 t224.length co12:Value).ownBlock∧some k_ ≠ (.slice Ao15 t228.length co15:Value).ownBlock∧k_ ≠ gb223)) (okp:=(fun k_=>(w.heap.size ≤ k_)∧some k_ ≠ (.slice Ao12 t224.length co12:Value).ownBlock∧some k_ ≠ (.slice Ao15 t228.length co15:Value).ownBlock∧k_ ≠ gb223)) ?hr ?hp (fun _ hk=>hk) ((show ∀ k_,w23.heap.size ≤ k_→(fun k_=>(w.heap.size ≤ k_)∧some k_ ≠ (.slice Ao12 t224.length co12:Value).ownBlock∧some k_ ≠ (.slice Ao15 t228.length co15:Value).ownBlock∧k_ ≠ gb223) k_ from fun k_ hk=>⟨(Nat.le_trans (below_size (by repeat (first|(with_reducible first|exact HB.out|apply below_alloc|apply pw_below_drewN|apply below_drew1|refine below_set ?_ GE223.out)|exact HB.out))) hk),Kd.fresh' (Kd.N_lt (by (with_reducible repeat (first|apply Kd.N_alloc|apply Kd.N_drewN|apply Kd.N_drew));exact HO226.out)) k_ hk,Kd.fresh' (Kd.R_lt (by (with_reducible repeat (first|apply Kd.R_alloc|apply Kd.R_drewN|apply Kd.R_drew));exact HO230.out)) k_ hk,Kd.freshB (g:=gb223) (o:=.cells #[.slice A0_0 l0_0.length c0_0,.slice A0_1 l0_1.length c0_1] 25 (0,0)) (by (with_reducible repeat (first|refine blk_drewN ?_ _|refine blk_drew ?_|refine blk_alloc ?_ _));exact BK223.out) k_ hk⟩) _ (Nat.le_refl _)) (Below.refl _ _) (Nat.le_refl _) (by simp) ?_;(case hd=>rfl);(case hg=>rfl);(case hr=>first|(go_simp;done)|(go_simp;rfl));(case hp=>exact (Reps.c2 (show Kd.FK k45 _ _ (⟨t227,y242⟩:S45) [.int .i64 t227,.slice Ao21 y242.length co21] from (k45_mkF _ _ (⟨t227,y242⟩:S45) (Kd.R_reads' (Kd.R_mono (ok':=(fun k_=>(w.heap.size ≤ k_)∧some k_ ≠ (.slice Ao12 t224.length co12:Value).ownBlock∧some k_ ≠ (.slice Ao15 t228.length co15:Value).ownBlock∧k_ ≠ gb223)) (Kd.R_types (Kd.R_apart' (HO244.out) (Kd.N_typed HO226.out) (by decide)) BK223.out (by decide)) (fun k_ hk=>⟨hk.1.1.1.1.1.1,⟨hk.1.2,⟨hk.1.1.1.1.2,hk.2⟩⟩⟩))).2.1 (Kd.R_F (Kd.R_mono (ok':=(fun k_=>(w.heap.size ≤ k_)∧some k_ ≠ (.slice Ao12 t224.length co12:Value).ownBlock∧some k_ ≠ (.slice Ao15 t228.length co15:Value).ownBlock∧k_ ≠ gb223)) (Kd.R_types (Kd.R_apart' (HO244.out) (Kd.N_typed HO226.out) (by decide)) BK223.out (by decide)) (fun k_ hk=>⟨hk.1.1.1.1.1.1,⟨hk.1.2,⟨hk.1.1.1.1.2,hk.2⟩⟩⟩))))) (Reps.c2 (show Kd.FK k45 _ _ (⟨wrap64 (t227 + 1),y239⟩:S45) [.int .i64 (wrap64 (t227 + 1)),.slice Ao22 y239.length co22] from (k45_mkF _ _ (⟨wrap64 (t227 + 1),y239⟩:S45) (Kd.R_reads' (Kd.R_mono (ok':=(fun k_=>(w.heap.size ≤ k_)∧some k_ ≠ (.slice Ao12 t224.length co12:Value).ownBlock∧some k_ ≠ (.slice Ao15 t228.length co15:Value).ownBlock∧k_ ≠ gb223)) (Kd.R_types (Kd.R_apart' (HO241.out) (Kd.N_typed HO226.out) (by decide)) BK223.out (by decide)) (fun k_ hk=>⟨hk.1.1.1.1.1,⟨hk.1.2,⟨hk.1.1.1.1.2,hk.2⟩⟩⟩))).2.1 (Kd.R_F (Kd.R_mono (ok':=(fun k_=>(w.heap.size ≤ k_)∧some k_ ≠ (.slice Ao12 t224.length co12:Value).ownBlock∧some k_ ≠ (.slice Ao15 t228.length co15:Value).ownBlock∧k_ ≠ gb223)) (Kd.R_types (Kd.R_apart' (HO241.out) (Kd.N_typed HO226.out) (by decide)) BK223.out (by decide)) (fun k_ hk=>⟨hk.1.1.1.1.1,⟨hk.1.2,⟨hk.1.1.1.1.2,hk.2⟩⟩⟩))))) (Reps.c2 (show Kd.FK k45 _ _ (⟨t227,y245⟩:S45) [.int .i64 t227,.slice Ao25 y245.length co25] from (k45_mkF _ _ (⟨t227,y245⟩:S45) (Kd.R_reads' (Kd.R_mono (ok':=(fun k_=>(w.heap.size ≤ k_)∧some k_ ≠ (.slice Ao12 t224.length co12:Value).ownBlock∧some k_ ≠ (.slice Ao15 t228.length co15:Value).ownBlock∧k_ ≠ gb223)) (Kd.R_types (Kd.R_apart' (HO247.out) (Kd.N_typed HO226.out) (by decide)) BK223.out (by decide)) (fun k_ hk=>⟨hk.1.1.1.1.1.1,⟨hk.1.2,⟨hk.1.1.1.1.2,hk.2⟩⟩⟩))).2.1 (Kd.R_F (Kd.R_mono (ok':=(fun k_=>(w.heap.size ≤ k_)∧some k_ ≠ (.slice Ao12 t224.length co12:Value).ownBlock∧some k_ ≠ (.slice Ao15 t228.length co15:Value).ownBlock∧k_ ≠ gb223)) (Kd.R_types (Kd.R_apart' (HO247.out) (Kd.N_typed HO226.out) (by decide)) BK223.out (by decide)) (fun k_ hk=>⟨hk.1.1.1.1.1.1,⟨hk.1.2,⟨hk.1.1.1.1.2,hk.2⟩⟩⟩))))) (Reps.none _ _)))));intro v249 w26 ho27 hb hg_ hnew_;clear hg_ hnew_;(first|rw [← Ny248.out] at ho27|(simp only [Int.reduceToNat] at ho27;rw [← Ny248.out] at ho27));have n0_:=Aside0.mk (Kd.N_elder' (by (with_reducible repeat (first|apply Kd.N_alloc|apply Kd.N_drewN|apply Kd.N_drew));exact HO226.out) (Kd.N_base ho27) hb);have n1_:=Aside0.mk (Kd.R_below (by (with_reducible repeat (first|apply Kd.R_alloc|apply Kd.R_drewN|apply Kd.R_drew));exact HO230.out) hb);have n2_:=Aside0.mk (Kd.V_elder' (by (with_reducible repeat (first|apply Kd.V_alloc|apply Kd.V_drewN|apply Kd.V_drew));exact HO235.out) (Kd.N_base ho27) hb);have n3_:=Aside0.mk (Kd.N_lower ho27 (below_size (by repeat (first|(with_reducible first|exact HB.out|apply below_alloc|apply pw_below_drewN|apply below_drew1|refine below_set ?_ GE223.out)|exact HB.out))));have n4_:=Aside0.mk (blk_below (g:=gb223) (o:=.cells #[.slice A0_0 l0_0.length c0_0,.slice A0_1 l0_1.length c0_1] 25 (0,0)) (by (with_reducible repeat (first|refine blk_drewN ?_ _|refine blk_drew ?_|refine blk_alloc ?_ _));exact BK223.out) hb);have n5_:=Aside0.mk (below_step (by repeat (first|(with_reducible first|exact HB.out|apply below_alloc|apply pw_below_drewN|apply below_drew1|refine below_set ?_ GE223.out)|exact HB.out)) hb);clear HO226;clear HO230;clear HO235;clear BK223;clear HB;clear HO241;clear HO244;clear HO247;have HO226:=n0_;have HO230:=n1_;have HO235:=n2_;have HO250:=n3_;have BK223:=n4_;have HB:=n5_;clear n0_ n1_ n2_ n3_ n4_ n5_;clear hb ho27))
         go_ret
         exact ⟨_,by first|rfl|(simp [errW_none,errW_some] <;> rfl)|(simp [*,errW_none,errW_some] <;> rfl),by (with_reducible repeat (first|apply Kd.N_alloc|apply Kd.N_drewN|apply Kd.N_drew));exact Kd.N_mono HO250.out (fun _ hk=>hk.1),by repeat (first|(with_reducible first|exact HB.out|apply below_alloc|apply pw_below_drewN|apply below_drew1|refine below_set ?_ GE223.out)|exact HB.out)⟩
       · rw [if_neg c8] at H
         exact absurd H (by simp)
     · rw [if_neg c7] at H
       have c7b0:decide ((wrap64 (t227 + (t228.length:Int))) < (l0_0.length:Int))=false:=decide_eq_false c7
       clear c7
       obtain ⟨y251,hy251⟩:∃ y_:List Int,y_=(([0]:List Int)):=⟨_,rfl⟩
       replace H:(some (([(⟨t227,y251⟩:S45),(⟨wrap64 (t227 + 1),y236⟩:S45),(⟨t227,(([82]:List Int))⟩:S45)]:List (S45))))=some r:=by first|(rw [hy251];with_reducible exact H)|(have H2_:=(Option.bind_some _ _).symm.trans H;rw [hy251];with_reducible exact H2_)|(have H2_:=(Option.bind_some _ _).symm.trans H;with_reducible exact H2_)|with_reducible exact H|(rw [hy251];exact H)|exact H
       have Ny251:=Aside0.mk hy251
       clear hy251
       obtain ⟨y254,hy254⟩:∃ y_:List Int,y_=(([82]:List Int)):=⟨_,rfl⟩
       replace H:(some (([(⟨t227,y251⟩:S45),(⟨wrap64 (t227 + 1),y236⟩:S45),(⟨t227,y254⟩:S45)]:List (S45))))=some r:=by first|(rw [hy254];with_reducible exact H)|(have H2_:=(Option.bind_some _ _).symm.trans H;rw [hy254];with_reducible exact H2_)|(have H2_:=(Option.bind_some _ _).symm.trans H;with_reducible exact H2_)|with_reducible exact H|(rw [hy254];exact H)|exact H
       have Ny254:=Aside0.mk hy254
       clear hy254
       obtain ⟨y257,hy257⟩:∃ y_:List (S45),y_=(([(⟨t227,y251⟩:S45),(⟨wrap64 (t227 + 1),y236⟩:S45),(⟨t227,y254⟩:S45)]:List (S45))):=⟨_,rfl⟩
       replace H:(some y257)=some r:=by first|(rw [hy257];with_reducible exact H)|(have H2_:=(Option.bind_some _ _).symm.trans H;rw [hy257];with_reducible exact H2_)|(have H2_:=(Option.bind_some _ _).symm.trans H;with_reducible exact H2_)|with_reducible exact H|(rw [hy257];exact H)|exact H
       have Ny257:=Aside0.mk hy257
       clear hy257
       obtain rfl:=Option.some.inj H
       go_enter Try.func42,Try.ntmps42
       go_wp2_with (first|((with_reducible refine gate_dst (N:=2) rfl ?_);refine box_event ?hg (N:=2) ?hd (cs:=#[.slice A0_0 l0_0.length c0_0,.slice A0_1 l0_1.length c0_1]) (t:=25) ?hr ?_;(case hd=>rfl);(case hg=>rfl);(case hr=>first|(go_simp;done)|(go_simp;rfl));intro gb223 hg w28 hbox hb;have n0_:=Aside0.mk (below_step (by repeat (first|(with_reducible first|exact HB.out|apply below_alloc|apply pw_below_drewN|apply below_drew1)|exact HB.out)) hb);have n1_:=Aside0.mk (hbox);have n2_:=Aside0.mk ((by rw [hg];exact (below_size (by repeat (first|(with_reducible first|exact HB.out|apply below_alloc|apply pw_below_drewN|apply below_drew1)|exact HB.out))):w.heap.size ≤ gb223));have n3_:=Aside0.mk ((by rw [hg];exact (below_size (by repeat (first|(with_reducible first|exact HB.out|apply below_alloc|apply pw_below_drewN|apply below_drew1)|exact HB.out))):w.heap.size ≤ gb223));clear HB;have HB:=n0_;have BK223:=n1_;have GW223:=n2_;have GE223:=n3_;clear n0_ n1_ n2_ n3_;clear hb hbox hg;have hcz29_0:w28.cell? ⟨gb223,0,none⟩=some (.slice A0_0 l0_0.length c0_0):=(blk_cell BK223.out 0).trans rfl;have hcz29_1:w28.cell? ⟨gb223,1,none⟩=some (.slice A0_1 l0_1.length c0_1):=(blk_cell BK223.out 1).trans rfl;have hfz29_0:=blk_frozen BK223.out 0;have hfz29_1:=blk_frozen BK223.out 1)|((with_reducible refine gate_callee (f:=37) rfl ?_);refine goesL_ (some 11) rfl rfl Try.func37 (by kernel_rfl) rfl #[.agg #[.slice A0_0 l0_0.length c0_0,.slice A0_1 l0_1.length c0_1]] rfl (by (try simp only [List.map_toArray,List.map_cons,List.map_nil]);first|done|rfl|(simp only [List.length_drop,List.length_take];rfl)) ?_;(with_reducible refine (wageofficeref43_Records.calls k _ _ l0_0 _ _ l0_1 t224 t227 _ ?side1 ?side2 ?side3 ?side4 A3.out).mono ?_);(case side1=>repeat (first|exact (Kd.C_below HR0_0.out HB.out)|(with_reducible refine Kd.C_alloc ?_ _)|(with_reducible refine Kd.C_drewN ?_ _)|(with_reducible refine Kd.C_drew ?_)));(case side2=>exact HC0_0.out);(case side3=>repeat (first|exact (Kd.C_below HR0_1.out HB.out)|(with_reducible refine Kd.C_alloc ?_ _)|(with_reducible refine Kd.C_drewN ?_ _)|(with_reducible refine Kd.C_drew ?_)));(case side4=>exact HC0_1.out);rintro e w30 ⟨v225,rfl,ho0,hb⟩;refine ⟨_,rfl,?_⟩;have n0_:=Aside0.mk (Kd.N_lower (Kd.N_mono (ok':=fun k_=>(w.heap.size ≤ k_)∧k_ ≠ gb223) (Kd.S_N (Kd.S_bound ho0)) (fun k_ hk_=>⟨(Nat.le_trans (below_size (by repeat (first|(with_reducible first|exact HB.out|apply below_alloc|apply pw_below_drewN|apply below_drew1|refine below_set ?_ GE223.out)|exact HB.out))) hk_.2.1),(Kd.freshB (g:=gb223) (o:=.cells #[.slice A0_0 l0_0.length c0_0,.slice A0_1 l0_1.length c0_1] 25 (0,0)) (by (with_reducible repeat (first|refine blk_drewN ?_ _|refine blk_drew ?_|refine blk_alloc ?_ _));exact BK223.out) k_ hk_.2.1)⟩)) (below_size (by repeat (first|(with_reducible first|exact HB.out|apply below_alloc|apply pw_below_drewN|apply below_drew1|refine below_set ?_ GE223.out)|exact HB.out))));have n1_:=Aside0.mk (blk_below (g:=gb223) (o:=.cells #[.slice A0_0 l0_0.length c0_0,.slice A0_1 l0_1.length c0_1] 25 (0,0)) (by (with_reducible repeat (first|refine blk_drewN ?_ _|refine blk_drew ?_|refine blk_alloc ?_ _));exact BK223.out) hb);have n2_:=Aside0.mk (below_step (by repeat (first|(with_reducible first|exact HB.out|apply below_alloc|apply pw_below_drewN|apply below_drew1|refine below_set ?_ GE223.out)|exact HB.out)) hb);clear BK223;clear HB;have HO226:=n0_;have BK223:=n1_;have HB:=n2_;clear n0_ n1_ n2_;(try clear hb);(try clear hb2);(try clear hk);(try clear hi);(try clear ho0);obtain ⟨Ao31,co31,eo31⟩:=Kd.N_slice HO226.out;subst eo31)|((with_reducible refine gate_callee (f:=56) rfl ?_);refine goesL_ (some 17) rfl rfl Try.func56 (by kernel_rfl) rfl #[.slice A1 l1.length c1,.int .i64 (t224.length:Int)] rfl (by (try simp only [List.map_toArray,List.map_cons,List.map_nil]);first|done|rfl|(simp only [List.length_drop,List.length_take];rfl)) ?_;(with_reducible refine (wageofficeref43_Code.calls k _ _ l1 (t224.length:Int) t228 _ ?side1 ?side2 A4.out).mono ?_);(case side1=>repeat (first|exact (Kd.C_below HR1.out HB.out)|(with_reducible refine Kd.C_alloc ?_ _)|(with_reducible refine Kd.C_drewN ?_ _)|(with_reducible refine Kd.C_drew ?_)));(case side2=>exact HC1.out);rintro e w32 ⟨v229,rfl,ho0,hb⟩;refine ⟨_,rfl,?_⟩;have n0_:=Aside0.mk (Kd.N_elder' (by (with_reducible repeat (first|apply Kd.N_alloc|apply Kd.N_drewN|apply Kd.N_drew));exact HO226.out) (Kd.R_base ho0) hb);have n1_:=Aside0.mk (Kd.R_lower (Kd.R_newM (M:=fun k_=>(w.heap.size ≤ k_)) ho0 (below_size (by repeat (first|(with_reducible first|exact HB.out|apply below_alloc|apply pw_below_drewN|apply below_drew1|refine below_set ?_ GE223.out)|exact HB.out))) (fun k_ h_=>h_)) (below_size (by repeat (first|(with_reducible first|exact HB.out|apply below_alloc|apply pw_below_drewN|apply below_drew1|refine below_set ?_ GE223.out)|exact HB.out))));have n2_:=Aside0.mk (blk_below (g:=gb223) (o:=.cells #[.slice A0_0 l0_0.length c0_0,.slice A0_1 l0_1.length c0_1] 25 (0,0)) (by (with_reducible repeat (first|refine blk_drewN ?_ _|refine blk_drew ?_|refine blk_alloc ?_ _));exact BK223.out) hb);have n3_:=Aside0.mk (below_step (by repeat (first|(with_reducible first|exact HB.out|apply below_alloc|apply pw_below_drewN|apply below_drew1|refine below_set ?_ GE223.out)|exact HB.out)) hb);clear HO226;clear BK223;clear HB;have HO226:=n0_;have HO230:=n1_;have BK223:=n2_;have HB:=n3_;clear n0_ n1_ n2_ n3_;(try clear hb);(try clear hb2);(try clear hk);(try clear hi);(try clear ho0);obtain ⟨Ao34,co34,eo34⟩:=Kd.R_slice HO230.out;subst eo34;have q33:(1:Int) ≤ ((t228.length:Int):Int):=of_decide_eq_true (by first|(with_reducible assumption)|assumption);obtain ⟨i033,hi033,_,hsz33,_⟩:=info_parts info5;have hroom33:t228.length ≤ co34:=(Kd.R_reads' HO230.out).2.1;have hC33:Kd.F (Kd.int .u8) _ _ Ao34 t228.length t228:=(Kd.V_at (base:=w.heap.size) (Kd.R_V (Kd.R_types (Kd.R_apart' (HO230.out) (Kd.N_typed HO226.out) (by decide)) BK223.out (by decide)))).2.2;have hcut33:=cut_from (P:=Try.prog) 22 5 .i64 Try.underlying22 hi033 1 hsz33 Ao34 t228.length co34 1 (by omega) q33;have hr33:=Kd.F_cut (m:=(1:Int).toNat) (c:=co34) hC33 (by omega) hroom33;obtain ⟨A33,hA33⟩:∃ A1,A1=(if co34=(1:Int).toNat then Ao34 else (Ao34:Option Addr).map (·.add ((1:Int).toNat * 1))):=⟨_,rfl⟩;obtain ⟨c33,hc33⟩:∃ c1,c1=co34 - (1:Int).toNat:=⟨_,rfl⟩;have hy33:y231.length=t228.length - (1:Int).toNat:=(by rw [Ny231.out,List.length_drop] <;> omega);rw [show (t228).drop (1:Int).toNat=y231 from Ny231.out.symm] at hr33;replace hr33:Kd.F (Kd.int .u8) _ _ A33 y231.length y231:=(by rw [hA33];exact hr33);rw [← hy33,← hA33,← hc33] at hcut33;have HO235:=Aside0.mk (show Kd.V (Kd.int .u8) 5 _ w.heap.size _ (.slice A33 y231.length c33) y231 from Kd.V_mk (by rw [hy33,hc33];exact Nat.sub_le_sub_right hroom33 _) hr33);have HC235:=Aside0.mk (show y231.length ≤ c33 from by rw [hy33,hc33];exact Nat.sub_le_sub_right hroom33 _);clear hr33 hC33 hroom33 hi033 hsz33 hc33;have KY33:=Aside0.mk hy33;have KA33:=Aside0.mk hA33;clear hy33 hA33;replace q33:=eq_true q33)|((with_reducible refine gate_builtin (b:=.append) (xs:=#[.tmp 18,.tmp 20]) rfl ?_);at_builtin;refine Kd.R_append_rows (Kd.int .u8) (w0:=w) w.heap.size rfl (.tmp 18) (.tmp 20) 22 5 (.int .u8 0) 1 rfl Try.underlying22 info5 rfl (by decide) (by omega) (.slice none 0 0) ([]:List Int) y231 _ _ _ (fun k_=>(w.heap.size ≤ k_)∧some k_ ≠ (.slice Ao34 t228.length co34:Value).ownBlock) (fun _=>False) rfl rfl ?aO ?aR (fun _ _ h=>h) (fun _ h=>h.elim) ?aF ?aB ?aS ?aL ?_;(case aR=>repeat (first|exact (Kd.V_reads' HO235.out).2.2|(with_reducible refine Kd.C_alloc ?_ _)|(with_reducible refine Kd.C_drewN ?_ _)|(with_reducible refine Kd.C_drew ?_)));(case aB=>exact (by repeat (first|(with_reducible first|exact HB.out|apply below_alloc|apply pw_below_drewN|apply below_drew1|refine below_set ?_ GE223.out)|exact HB.out)));(case aF=>exact (fun k_ hk=>⟨(Nat.le_trans (below_size (by repeat (first|(with_reducible first|exact HB.out|apply below_alloc|apply pw_below_drewN|apply below_drew1|refine below_set ?_ GE223.out)|exact HB.out))) hk),Kd.fresh' (Kd.R_lt (by (with_reducible repeat (first|apply Kd.R_alloc|apply Kd.R_drewN|apply Kd.R_drew));exact HO230.out)) k_ hk⟩));(case aO=>exact ((Kd.R_nil _ _ _ _ (fun k_=>(w.heap.size ≤ k_)∧some k_ ≠ (.slice Ao34 t228.length co34:Value).ownBlock))));(case aS=>exact (below_size (by repeat (first|(with_reducible first|exact HB.out|apply below_alloc|apply pw_below_drewN|apply below_drew1|refine below_set ?_ GE223.out)|exact HB.out))));(case aL=>have:=LMc6.out;omega);intro v237 w35 ho hb hg hat;rw [← Ny236.out] at ho;have n0_:=Aside0.mk (blk_grown (g:=gb223) (o:=.cells #[.slice A0_0 l0_0.length c0_0,.slice A0_1 l0_1.length c0_1] 25 (0,0)) (by (with_reducible repeat (first|refine blk_drewN ?_ _|refine blk_drew ?_|refine blk_alloc ?_ _));exact BK223.out) hg (by simp [Value.ownBlock]));have n1_:=Aside0.mk (Kd.N_afterv (Kd.N_apart_nil (by (with_reducible repeat (first|apply Kd.N_alloc|apply Kd.N_drewN|apply Kd.N_drew));exact HO226.out)) hg hat);have n2_:=Aside0.mk (Kd.R_after (Kd.R_apart_nil (by (with_reducible repeat (first|apply Kd.R_alloc|apply Kd.R_drewN|apply Kd.R_drew));exact HO230.out)) hg hat);have n3_:=Aside0.mk (Kd.V_afterv (Kd.V_apart_nil (by (with_reducible repeat (first|apply Kd.V_alloc|apply Kd.V_drewN|apply Kd.V_drew));exact HO235.out)) hg hat);have n4_:=Aside0.mk (hb);have n5_:=Aside0.mk (ho);clear BK223;clear HO226;clear HO230;clear HO235;clear HB;have BK223:=n0_;have HO226:=n1_;have HO230:=n2_;have HO235:=n3_;have HB:=n4_;have HO238:=n5_;clear n0_ n1_ n2_ n3_ n4_ n5_;clear ho hb hg hat;have hcz36_0:w35.cell? ⟨gb223,0,none⟩=some (.slice A0_0 l0_0.length c0_0):=(blk_cell BK223.out 0).trans rfl;have hcz36_1:w35.cell? ⟨gb223,1,none⟩=some (.slice A0_1 l0_1.length c0_1):=(blk_cell BK223.out 1).trans rfl;have hfz36_0:=blk_frozen BK223.out 0;have hfz36_1:=blk_frozen BK223.out 1)|((with_reducible refine gate_dst (N:=34) rfl ?_);refine Kd.R_lit (Kd.int .u8) _ 5 ?hg (N:=34) ?hd (xs:=([0]:List Int)) (inner:=[.int .u8 0]) (ok:=fun _=>True) (okp:=fun _=>True) ?hr ?hp (fun _ hk=>hk) trivial (Below.refl _ _) (Nat.le_refl _) (by simp) ?_;(case hd=>rfl);(case hg=>rfl);(case hr=>first|(go_simp;done)|(go_simp;rfl));(case hp=>exact (Reps.one (show Kd.M (Kd.int .u8) _ _ _ 0 [.int .u8 0] from rfl) (Reps.none _ _)));intro v252 w37 ho38 hb hg_ hnew_;clear hg_ hnew_;(first|rw [← Ny251.out] at ho38|(simp only [Int.reduceToNat] at ho38;rw [← Ny251.out] at ho38));have n0_:=Aside0.mk (Kd.N_elder' (by (with_reducible repeat (first|apply Kd.N_alloc|apply Kd.N_drewN|apply Kd.N_drew));exact HO226.out) (Kd.R_base ho38) hb);have n1_:=Aside0.mk (Kd.R_elder' (by (with_reducible repeat (first|apply Kd.R_alloc|apply Kd.R_drewN|apply Kd.R_drew));exact HO230.out) (Kd.R_base ho38) hb);have n2_:=Aside0.mk (Kd.V_elder' (by (with_reducible repeat (first|apply Kd.V_alloc|apply Kd.V_drewN|apply Kd.V_drew));exact HO235.out) (Kd.R_base ho38) hb);have n3_:=Aside0.mk (Kd.R_elder' (by (with_reducible repeat (first|apply Kd.R_alloc|apply Kd.R_drewN|apply Kd.R_drew));exact HO238.out) (Kd.R_base ho38) hb);have n4_:=Aside0.mk (Kd.R_lower (Kd.R_new' (Kd.R_new' (Kd.R_newM (M:=fun k_=>(w.heap.size ≤ k_)) ho38 (below_size (by repeat (first|(with_reducible first|exact HB.out|apply below_alloc|apply pw_below_drewN|apply below_drew1|refine below_set ?_ GE223.out)|exact HB.out))) (fun k_ h_=>h_)) (Kd.R_lt (by (with_reducible repeat (first|apply Kd.R_alloc|apply Kd.R_drewN|apply Kd.R_drew));exact HO230.out))) (Kd.R_lt (by (with_reducible repeat (first|apply Kd.R_alloc|apply Kd.R_drewN|apply Kd.R_drew));exact HO238.out))) (below_size (by repeat (first|(with_reducible first|exact HB.out|apply below_alloc|apply pw_below_drewN|apply below_drew1|refine below_set ?_ GE223.out)|exact HB.out))));have n5_:=Aside0.mk (blk_below (g:=gb223) (o:=.cells #[.slice A0_0 l0_0.length c0_0,.slice A0_1 l0_1.length c0_1] 25 (0,0)) (by (with_reducible repeat (first|refine blk_drewN ?_ _|refine blk_drew ?_|refine blk_alloc ?_ _));exact BK223.out) hb);have n6_:=Aside0.mk (below_step (by repeat (first|(with_reducible first|exact HB.out|apply below_alloc|apply pw_below_drewN|apply below_drew1|refine below_set ?_ GE223.out)|exact HB.out)) hb);clear HO226;clear HO230;clear HO235;clear HO238;clear BK223;clear HB;have HO226:=n0_;have HO230:=n1_;have HO235:=n2_;have HO238:=n3_;have HO253:=n4_;have BK223:=n5_;have HB:=n6_;clear n0_ n1_ n2_ n3_ n4_ n5_ n6_;clear hb ho38;obtain ⟨Ao39,co39,eo39⟩:=Kd.R_slice HO253.out;subst eo39;obtain ⟨Ao40,co40,eo40⟩:=Kd.R_slice HO238.out;subst eo40)|((with_reducible refine gate_dst (N:=41) rfl ?_);refine Kd.R_lit (Kd.int .u8) _ 5 ?hg (N:=41) ?hd (xs:=([82]:List Int)) (inner:=[.int .u8 82]) (ok:=fun _=>True) (okp:=fun _=>True) ?hr ?hp (fun _ hk=>hk) trivial (Below.refl _ _) (Nat.le_refl _) (by simp) ?_;(case hd=>rfl);(case hg=>rfl);(case hr=>first|(go_simp;done)|(go_simp;rfl));(case hp=>exact (Reps.one (show Kd.M (Kd.int .u8) _ _ _ 82 [.int .u8 82] from rfl) (Reps.none _ _)));intro v255 w41 ho42 hb hg_ hnew_;clear hg_ hnew_;(first|rw [← Ny254.out] at ho42|(simp only [Int.reduceToNat] at ho42;rw [← Ny254.out] at ho42));have n0_:=Aside0.mk (Kd.N_elder' (by (with_reducible repeat (first|apply Kd.N_alloc|apply Kd.N_drewN|apply Kd.N_drew));exact HO226.out) (Kd.R_base ho42) hb);have n1_:=Aside0.mk (Kd.R_elder' (by (with_reducible repeat (first|apply Kd.R_alloc|apply Kd.R_drewN|apply Kd.R_drew));exact HO230.out) (Kd.R_base ho42) hb);have n2_:=Aside0.mk (Kd.V_elder' (by (with_reducible repeat (first|apply Kd.V_alloc|apply Kd.V_drewN|apply Kd.V_drew));exact HO235.out) (Kd.R_base ho42) hb);have n3_:=Aside0.mk (Kd.R_elder' (by (with_reducible repeat (first|apply Kd.R_alloc|apply Kd.R_drewN|apply Kd.R_drew));exact HO238.out) (Kd.R_base ho42) hb);have n4_:=Aside0.mk (Kd.R_elder' (by (with_reducible repeat (first|apply Kd.R_alloc|apply Kd.R_drewN|apply Kd.R_drew));exact HO253.out) (Kd.R_base ho42) hb);have n5_:=Aside0.mk (Kd.R_lower (Kd.R_new' (Kd.R_new' (Kd.R_new' (Kd.R_newM (M:=fun k_=>(w.heap.size ≤ k_)) ho42 (below_size (by repeat (first|(with_reducible first|exact HB.out|apply below_alloc|apply pw_below_drewN|apply below_drew1|refine below_set ?_ GE223.out)|exact HB.out))) (fun k_ h_=>h_)) (Kd.R_lt (by (with_reducible repeat (first|apply Kd.R_alloc|apply Kd.R_drewN|apply Kd.R_drew));exact HO230.out))) (Kd.R_lt (by (with_reducible repeat (first|apply Kd.R_alloc|apply Kd.R_drewN|apply Kd.R_drew));exact HO238.out))) (Kd.R_lt (by (with_reducible repeat (first|apply Kd.R_alloc|apply Kd.R_drewN|apply Kd.R_drew));exact HO253.out))) (below_size (by repeat (first|(with_reducible first|exact HB.out|apply below_alloc|apply pw_below_drewN|apply below_drew1|refine below_set ?_ GE223.out)|exact HB.out))));have n6_:=Aside0.mk (blk_below (g:=gb223) (o:=.cells #[.slice A0_0 l0_0.length c0_0,.slice A0_1 l0_1.length c0_1] 25 (0,0)) (by (with_reducible repeat (first|refine blk_drewN ?_ _|refine blk_drew ?_|refine blk_alloc ?_ _));exact BK223.out) hb);have n7_:=Aside0.mk (below_step (by repeat (first|(with_reducible first|exact HB.out|apply below_alloc|apply pw_below_drewN|apply below_drew1|refine below_set ?_ GE223.out)|exact HB.out)) hb);clear HO226;clear HO230;clear HO235;clear HO238;clear HO253;clear BK223;clear HB;have HO226:=n0_;have HO230:=n1_;have HO235:=n2_;have HO238:=n3_;have HO253:=n4_;have HO256:=n5_;have BK223:=n6_;have HB:=n7_;clear n0_ n1_ n2_ n3_ n4_ n5_ n6_ n7_;clear hb ho42;obtain ⟨Ao43,co43,eo43⟩:=Kd.R_slice HO256.out;subst eo43)|((with_reducible refine gate_dst (N:=43) rfl ?_);refine Kd.N_lit k45 _ 45 ?hg (N':=43) ?hd (xs:=([(⟨t227,y251⟩:S45),(⟨wrap64 (t227 + 1),y236⟩:S45),(⟨t227,y254⟩:S45)]:List (S45))) (inner:=[.int .i64 t227,.slice Ao39 y251.length co39,.int .i64 (wrap64 (t227 + 1)),.slice Ao40 y236.length co40,.int .i64 t227,.slice Ao43 y254.length co43]) (ok:=(fun k_=>(w.heap.size ≤ k_)∧some k_ ≠ (.slice Ao31 t224.length co31:Value).ownBlock∧some k_ ≠ (.slice Ao34 t228.length co34:Value).ownBlock∧k_ ≠ gb223)) (okp:=(fun k_=>(w.heap.size ≤ k_)∧some k_ ≠ (.slice Ao31 t224.length co31:Value).ownBlock∧some k_ ≠ (.slice Ao34 t228.length co34:Value).ownBlock∧k_ ≠ gb223)) ?hr ?hp (fun _ hk=>hk) ((show ∀ k_,w41.heap.size ≤ k_→(fun k_=>(w.heap.size ≤ k_)∧some k_ ≠ (.slice Ao31 t224.length co31:Value).ownBlock∧some k_ ≠ (.slice Ao34 t228.length co34:Value).ownBlock∧k_ ≠ gb223) k_ from fun k_ hk=>⟨(Nat.le_trans (below_size (by repeat (first|(with_reducible first|exact HB.out|apply below_alloc|apply pw_below_drewN|apply below_drew1|refine below_set ?_ GE223.out)|exact HB.out))) hk),Kd.fresh' (Kd.N_lt (by (with_reducible repeat (first|apply Kd.N_alloc|apply Kd.N_drewN|apply Kd.N_drew));exact HO226.out)) k_ hk,Kd.fresh' (Kd.R_lt (by (with_reducible repeat (first|apply Kd.R_alloc|apply Kd.R_drewN|apply Kd.R_drew));exact HO230.out)) k_ hk,Kd.freshB (g:=gb223) (o:=.cells #[.slice A0_0 l0_0.length c0_0,.slice A0_1 l0_1.length c0_1] 25 (0,0)) (by (with_reducible repeat (first|refine blk_drewN ?_ _|refine blk_drew ?_|refine blk_alloc ?_ _));exact BK223.out) k_ hk⟩) _ (Nat.le_refl _)) (Below.refl _ _) (Nat.le_refl _) (by simp) ?_;(case hd=>rfl);(case hg=>rfl);(case hr=>first|(go_simp;done)|(go_simp;rfl));(case hp=>exact (Reps.c2 (show Kd.FK k45 _ _ (⟨t227,y251⟩:S45) [.int .i64 t227,.slice Ao39 y251.length co39] from (k45_mkF _ _ (⟨t227,y251⟩:S45) (Kd.R_reads' (Kd.R_mono (ok':=(fun k_=>(w.heap.size ≤ k_)∧some k_ ≠ (.slice Ao31 t224.length co31:Value).ownBlock∧some k_ ≠ (.slice Ao34 t228.length co34:Value).ownBlock∧k_ ≠ gb223)) (Kd.R_types (Kd.R_apart' (HO253.out) (Kd.N_typed HO226.out) (by decide)) BK223.out (by decide)) (fun k_ hk=>⟨hk.1.1.1.1.1.1,⟨hk.1.2,⟨hk.1.1.1.1.2,hk.2⟩⟩⟩))).2.1 (Kd.R_F (Kd.R_mono (ok':=(fun k_=>(w.heap.size ≤ k_)∧some k_ ≠ (.slice Ao31 t224.length co31:Value).ownBlock∧some k_ ≠ (.slice Ao34 t228.length co34:Value).ownBlock∧k_ ≠ gb223)) (Kd.R_types (Kd.R_apart' (HO253.out) (Kd.N_typed HO226.out) (by decide)) BK223.out (by decide)) (fun k_ hk=>⟨hk.1.1.1.1.1.1,⟨hk.1.2,⟨hk.1.1.1.1.2,hk.2⟩⟩⟩))))) (Reps.c2 (show Kd.FK k45 _ _ (⟨wrap64 (t227 + 1),y236⟩:S45) [.int .i64 (wrap64 (t227 + 1)),.slice Ao40 y236.length co40] from (k45_mkF _ _ (⟨wrap64 (t227 + 1),y236⟩:S45) (Kd.R_reads' (Kd.R_mono (ok':=(fun k_=>(w.heap.size ≤ k_)∧some k_ ≠ (.slice Ao31 t224.length co31:Value).ownBlock∧some k_ ≠ (.slice Ao34 t228.length co34:Value).ownBlock∧k_ ≠ gb223)) (Kd.R_types (Kd.R_apart' (HO238.out) (Kd.N_typed HO226.out) (by decide)) BK223.out (by decide)) (fun k_ hk=>⟨hk.1.1.1.1.1,⟨hk.1.2,⟨hk.1.1.1.1.2,hk.2⟩⟩⟩))).2.1 (Kd.R_F (Kd.R_mono (ok':=(fun k_=>(w.heap.size ≤ k_)∧some k_ ≠ (.slice Ao31 t224.length co31:Value).ownBlock∧some k_ ≠ (.slice Ao34 t228.length co34:Value).ownBlock∧k_ ≠ gb223)) (Kd.R_types (Kd.R_apart' (HO238.out) (Kd.N_typed HO226.out) (by decide)) BK223.out (by decide)) (fun k_ hk=>⟨hk.1.1.1.1.1,⟨hk.1.2,⟨hk.1.1.1.1.2,hk.2⟩⟩⟩))))) (Reps.c2 (show Kd.FK k45 _ _ (⟨t227,y254⟩:S45) [.int .i64 t227,.slice Ao43 y254.length co43] from (k45_mkF _ _ (⟨t227,y254⟩:S45) (Kd.R_reads' (Kd.R_mono (ok':=(fun k_=>(w.heap.size ≤ k_)∧some k_ ≠ (.slice Ao31 t224.length co31:Value).ownBlock∧some k_ ≠ (.slice Ao34 t228.length co34:Value).ownBlock∧k_ ≠ gb223)) (Kd.R_types (Kd.R_apart' (HO256.out) (Kd.N_typed HO226.out) (by decide)) BK223.out (by decide)) (fun k_ hk=>⟨hk.1.1.1.1.1.1,⟨hk.1.2,⟨hk.1.1.1.1.2,hk.2⟩⟩⟩))).2.1 (Kd.R_F (Kd.R_mono (ok':=(fun k_=>(w.heap.size ≤ k_)∧some k_ ≠ (.slice Ao31 t224.length co31:Value).ownBlock∧some k_ ≠ (.slice Ao34 t228.length co34:Value).ownBlock∧k_ ≠ gb223)) (Kd.R_types (Kd.R_apart' (HO256.out) (Kd.N_typed HO226.out) (by decide)) BK223.out (by decide)) (fun k_ hk=>⟨hk.1.1.1.1.1.1,⟨hk.1.2,⟨hk.1.1.1.1.2,hk.2⟩⟩⟩))))) (Reps.none _ _)))));intro v258 w44 ho45 hb hg_ hnew_;clear hg_ hnew_;(first|rw [← Ny257.out] at ho45|(simp only [Int.reduceToNat] at ho45;rw [← Ny257.out] at ho45));have n0_:=Aside0.mk (Kd.N_elder' (by (with_reducible repeat (first|apply Kd.N_alloc|apply Kd.N_drewN|apply Kd.N_drew));exact HO226.out) (Kd.N_base ho45) hb);have n1_:=Aside0.mk (Kd.R_below (by (with_reducible repeat (first|apply Kd.R_alloc|apply Kd.R_drewN|apply Kd.R_drew));exact HO230.out) hb);have n2_:=Aside0.mk (Kd.V_elder' (by (with_reducible repeat (first|apply Kd.V_alloc|apply Kd.V_drewN|apply Kd.V_drew));exact HO235.out) (Kd.N_base ho45) hb);have n3_:=Aside0.mk (Kd.N_lower ho45 (below_size (by repeat (first|(with_reducible first|exact HB.out|apply below_alloc|apply pw_below_drewN|apply below_drew1|refine below_set ?_ GE223.out)|exact HB.out))));have n4_:=Aside0.mk (blk_below (g:=gb223) (o:=.cells #[.slice A0_0 l0_0.length c0_0,.slice A0_1 l0_1.length c0_1] 25 (0,0)) (by (with_reducible repeat (first|refine blk_drewN ?_ _|refine blk_drew ?_|refine blk_alloc ?_ _));exact BK223.out) hb);have n5_:=Aside0.mk (below_step (by repeat (first|(with_reducible first|exact HB.out|apply below_alloc|apply pw_below_drewN|apply below_drew1|refine below_set ?_ GE223.out)|exact HB.out)) hb);clear HO226;clear HO230;clear HO235;clear BK223;clear HB;clear HO238;clear HO253;clear HO256;have HO226:=n0_;have HO230:=n1_;have HO235:=n2_;have HO259:=n3_;have BK223:=n4_;have HB:=n5_;clear n0_ n1_ n2_ n3_ n4_ n5_;clear hb ho45))
       go_ret
       exact ⟨_,by first|rfl|(simp [errW_none,errW_some] <;> rfl)|(simp [*,errW_none,errW_some] <;> rfl),by (with_reducible repeat (first|apply Kd.N_alloc|apply Kd.N_drewN|apply Kd.N_drew));exact Kd.N_mono HO259.out (fun _ hk=>hk.1),by repeat (first|(with_reducible first|exact HB.out|apply below_alloc|apply pw_below_drewN|apply below_drew1|refine below_set ?_ GE223.out)|exact HB.out)⟩
   · rw [if_neg c6] at H
     exact absurd H (by simp)
 · rw [if_neg c5] at H
   exact absurd H (by simp)
end Go.Proofs.Ytfpdmlhknddffaa.Dk
end
section
namespace Go.Proofs.Ytfpdmlhknddffaa.Dk
open Go.RowKit Go.Proofs.YtfpdmlhknddffaaW.PrintWords Go.Proofs.YtfpdmlhknddffaaW.PrintLast Go.Proofs.YtfpdmlhknddffaaW.PrintMore
attribute [local go_sem] field25 field25b max2_int min2_int max_two min_two max_three min_three max_four min_four
set_option linter.unusedVariables false
set_option linter.unusedSimpArgs false
mutual
def wageofficeref43_Append.j0:Nat→List Int→Bool→List Int→List (S45)→Option (List Int × (List (S45)) × Int)
 | 0,_,_,_,_=>none
 | k + 1,x1,x19,x261000,x261001=>if x19=true then (some (([]:List Int),([]:List (S45)),1)) else ((wageofficeref43_Records.f k x261000 x261001).bind fun bt263=>(if (x1.length:Int) > 4096 then (wageofficeref43_Append.j1 k x1 true x261000 x261001) else (wageofficeref43_Append.j1 k x1 (decide ((wrap64 ((wrap64 (bt263.2 + 13)) + (x1.length:Int))) > (x261000.length:Int))) x261000 x261001)))
def wageofficeref43_Append.j1:Nat→List Int→Bool→List Int→List (S45)→Option (List Int × (List (S45)) × Int)
 | 0,_,_,_,_=>none
 | k + 1,x1,x39,x261000,x261001=>if x39=true then (some (([]:List Int),([]:List (S45)),2)) else ((wageofficeref43_Writes.f k x261000 x261001 x1).bind fun t267=>((wageofficeref42_Sync.f k x261000 x261001).bind fun bt270=>(wageofficeref43_Append.l0 k t267 0 bt270.1 bt270.2)))
def wageofficeref43_Append.l0:Nat→List (S45)→Int→List Int→List (S45)→Option (List Int × (List (S45)) × Int)
 | 0,_,_,_,_=>none
 | k + 1,x8,x9,x261000,x261001=>if x9 < (x8.length:Int) then (if 0 ≤ x9 then ((wageofficeref42_Write.f k x261000 x261001 ((rd_T45 x8 x9).f0) ((rd_T45 x8 x9).f1)).bind fun bt278=>((wageofficeref42_Sync.f k bt278.1 bt278.2.1).bind fun bt286=>(wageofficeref43_Append.l0 k x8 (wrap64 (x9 + 1)) bt286.1 bt286.2))) else (none)) else (some (x261000,x261001,0))
end
def wageofficeref43_Append.f (k:Nat) (l0_0:List Int) (l0_1:List (S45)) (l1:List Int):Option (List Int × (List (S45)) × Int):=(wageofficeref42_Valid.f k l0_0 l0_1).bind fun t262=>(if t262=true then (wageofficeref43_Append.j0 k l1 ((l1.length:Int) == 0) l0_0 l0_1) else (wageofficeref43_Append.j0 k l1 true l0_0 l0_1))
def wageofficeref43_Append.T11:Bool × List (List Nat × List Nat):=(true,[([],[]),([],[]),([],[]),([1,2],[1,2]),([3],[3]),([4],[4]),([],[]),([],[]),([6,7],[6,7]),([8],[8]),([9],[9]),([0,5,10],[0,5,10]),([11],[11]),([12],[12]),([12],[12]),([],[]),([15,13,11,0,1,2,3,4,5,6,7,8,9,10,11,12,13,15],[13,15]),([14,16,0,1,2,3,4,5,6,7,8,9,10,11,12,13,14,15,16],[14])])
def wageofficeref43_Append.B11:List Nat:=[0,0,0,6,14,30,0,0,192,448,960,2047,4095,8191,8191,0,49151,131071]
theorem wageofficeref43_Append.tab11:rtab .any (opsOf Try.f35 11)=wageofficeref43_Append.T11:=by kernel_rfl
theorem wageofficeref43_Append.bits11:waitsOk wageofficeref43_Append.T11.2 wageofficeref43_Append.B11=true:=by kernel_rfl
set_option maxHeartbeats 8000000 in
set_option maxRecDepth 100000 in
theorem wageofficeref43_Append.calls (k:Nat) (A0_0:Option Addr) (c0_0:Nat) (l0_0:List Int) (A0_1:Option Addr) (c0_1:Nat) (l0_1:List (S45)) (A1:Option Addr) (c1:Nat) (l1:List Int) (r1:List Int) (r2:List (S45)) (r3:Int) (w:World) (hr0_0:Kd.C (Kd.int .u8) w A0_0 l0_0.length l0_0) (hc0_0:l0_0.length ≤ c0_0) (hr0_1:Kd.C k45 w A0_1 l0_1.length l0_1) (hc0_1:l0_1.length ≤ c0_1) (hr1:Kd.C (Kd.int .u8) w A1 l1.length l1) (hc1:l1.length ≤ c1) (h:wageofficeref43_Append.f k l0_0 l0_1 l1=some (r1,r2,r3)) :
 Calls Try.prog 35 #[.agg #[.slice A0_0 l0_0.length c0_0,.slice A0_1 l0_1.length c0_1],.slice A1 l1.length c1] w fun e w'=>∃ v0_ v1_:Value,e=.returned (.tuple #[.agg #[v0_,v1_],.int .i64 r3])∧Kd.R (Kd.int .u8) 5 w' w.heap.size (fun k_=>(w.heap.size ≤ k_)) v0_ r1∧Kd.N k45 45 w' w.heap.size (fun k_=>(w.heap.size ≤ k_)∧some k_ ≠ (v0_:Value).ownBlock) v1_ r2∧Below w.heap.size w w':=by
 have hu25:=Try.underlying25
 have HR0_0:=Aside0.mk hr0_0
 have HC0_0:=Aside0.mk hc0_0
 clear hr0_0 hc0_0
 have HR0_1:=Aside0.mk hr0_1
 have HC0_1:=Aside0.mk hc0_1
 clear hr0_1 hc0_1
 have HR1:=Aside0.mk hr1
 have HC1:=Aside0.mk hc1
 clear hr1 hc1
 have HB:=Aside0.mk (Below.refl w.heap.size w)
 have H:((wageofficeref42_Valid.f k l0_0 l0_1).bind fun t262=>(if t262=true then (wageofficeref43_Append.j0 k l1 ((l1.length:Int) == 0) l0_0 l0_1) else (wageofficeref43_Append.j0 k l1 true l0_0 l0_1)))=some (r1,r2,r3):=h
 clear h
 have HC3:=Aside0.mk H
 clear H
 go_enter Try.func35,Try.ntmps35
 go_upto_region 1 with (first|((with_reducible refine gate_dst (N:=2) rfl ?_);(try (refine gate_guard (by rfl) ?_;dsimp only));refine box_event ?hg (N:=2) ?hd (cs:=#[.slice A0_0 l0_0.length c0_0,.slice A0_1 l0_1.length c0_1]) (t:=25) ?hr ?_;(case hd=>rfl);(case hg=>rfl);(case hr=>first|(go_simp;done)|(go_simp;rfl));intro gb260 hg w4 hbox hb;have n0_:=Aside0.mk (below_step (by repeat (first|(with_reducible first|exact HB.out|apply below_alloc|apply pw_below_drewN|apply below_drew1)|exact HB.out)) hb);have n1_:=Aside0.mk (hbox);have n2_:=Aside0.mk ((by rw [hg];exact (below_size (by repeat (first|(with_reducible first|exact HB.out|apply below_alloc|apply pw_below_drewN|apply below_drew1)|exact HB.out))):w.heap.size ≤ gb260));have n3_:=Aside0.mk ((by rw [hg];exact (below_size (by repeat (first|(with_reducible first|exact HB.out|apply below_alloc|apply pw_below_drewN|apply below_drew1)|exact HB.out))):w.heap.size ≤ gb260));clear HB;have HB:=n0_;have BK260:=n1_;have GW260:=n2_;have GE260:=n3_;clear n0_ n1_ n2_ n3_;clear hb hbox hg)|((with_reducible refine gate_dst (N:=4) rfl ?_);(try (refine gate_guard (by rfl) ?_;dsimp only));refine box_event ?hg (N:=4) ?hd (cs:=#[.slice none 0 0,.slice none 0 0]) (t:=25) ?hr ?_;(case hd=>rfl);(case hg=>rfl);(case hr=>first|(go_simp;done)|(go_simp;rfl));intro gb261 hg w5 hbox hb;have n0_:=Aside0.mk (blk_below (g:=gb260) (o:=.cells #[.slice A0_0 l0_0.length c0_0,.slice A0_1 l0_1.length c0_1] 25 (0,0)) (by (with_reducible repeat (first|refine blk_drewN ?_ _|refine blk_drew ?_|refine blk_alloc ?_ _));exact BK260.out) hb);have n1_:=Aside0.mk (below_step (by repeat (first|(with_reducible first|exact HB.out|apply below_alloc|apply pw_below_drewN|apply below_drew1|refine below_set ?_ GE260.out)|exact HB.out)) hb);have n2_:=Aside0.mk (hbox);have n3_:=Aside0.mk ((by rw [hg];exact (below_size (by repeat (first|(with_reducible first|exact HB.out|apply below_alloc|apply pw_below_drewN|apply below_drew1|refine below_set ?_ GE260.out)|exact HB.out))):w.heap.size ≤ gb261));have n4_:=Aside0.mk ((by rw [hg];exact (below_size (by repeat (first|(with_reducible first|exact HB.out|apply below_alloc|apply pw_below_drewN|apply below_drew1|refine below_set ?_ GE260.out)|exact HB.out))):w.heap.size ≤ gb261));have n5_:=Aside0.mk ((by rw [hg];exact Nat.ne_of_lt (blk_lt (g:=gb260) (o:=.cells #[.slice A0_0 l0_0.length c0_0,.slice A0_1 l0_1.length c0_1] 25 (0,0)) (by (with_reducible repeat (first|refine blk_drewN ?_ _|refine blk_drew ?_|refine blk_alloc ?_ _));exact BK260.out)):gb260 ≠ gb261));have n6_:=Aside0.mk ((by rw [hg];exact Nat.ne_of_gt (blk_lt (g:=gb260) (o:=.cells #[.slice A0_0 l0_0.length c0_0,.slice A0_1 l0_1.length c0_1] 25 (0,0)) (by (with_reducible repeat (first|refine blk_drewN ?_ _|refine blk_drew ?_|refine blk_alloc ?_ _));exact BK260.out)):gb261 ≠ gb260));clear BK260;clear HB;have BK260:=n0_;have HB:=n1_;have BK261:=n2_;have GW261:=n3_;have GE261:=n4_;have NB260_261:=n5_;have NB261_260:=n6_;clear n0_ n1_ n2_ n3_ n4_ n5_ n6_;clear hb hbox hg))
 (try simp only [Act.put,List.setIfInBounds_toArray,List.set_cons_zero,List.set_cons_succ])
 go_cut [19] (fun v19 wc=>∃ (kq:Nat) (x19_2:Bool),v19=.bool x19_2∧Aside0 (wageofficeref43_Append.j0 kq l1 x19_2 l0_0 l0_1=some (r1,r2,r3))∧Aside0 (kq ≤ k)∧Aside0 (wc.heap[gb260]? = some (.cells #[(.slice A0_0 l0_0.length c0_0),(.slice A0_1 l0_1.length c0_1)] 25 (0,0)))∧Aside0 (wc.heap[gb261]? = some (.cells #[(.slice none 0 0),(.slice none 0 0)] 25 (0,0)))∧Aside0 (Below w.heap.size w wc))
 case first =>
  have H:=HC3.out
  clear HC3
  replace H:=Option.bind_eq_some_iff.mp H
  obtain ⟨t262,A60,H⟩:=H
  replace H:(if t262=true then (wageofficeref43_Append.j0 k l1 ((l1.length:Int) == 0) l0_0 l0_1) else (wageofficeref43_Append.j0 k l1 true l0_0 l0_1))=some (r1,r2,r3):=H
  have A6:=Aside0.mk A60
  clear A60
  by_cases c7:t262=true
  · subst c7
    have H1:(wageofficeref43_Append.j0 k l1 ((l1.length:Int) == 0) l0_0 l0_1)=some (r1,r2,r3):=by rw [if_pos rfl] at H;exact H
    clear H
    have H:=H1
    clear H1
    have H':=Aside0.mk H
    clear H
    have hnb8:=NB260_261.out
    have hnc8:=NB261_260.out
    have hcz9_0:w5.cell? ⟨gb260,0,none⟩=some (.slice A0_0 l0_0.length c0_0):=(blk_cell BK260.out 0).trans rfl
    have hcz9_1:w5.cell? ⟨gb260,1,none⟩=some (.slice A0_1 l0_1.length c0_1):=(blk_cell BK260.out 1).trans rfl
    have hfz9_0:=blk_frozen BK260.out 0
    have hfz9_1:=blk_frozen BK260.out 1
    go_wp2_with (first|((with_reducible refine gate_callee (f:=31) rfl ?_);refine goesL_ (some 13) rfl rfl Try.func31 (by kernel_rfl) rfl #[.agg #[.slice A0_0 l0_0.length c0_0,.slice A0_1 l0_1.length c0_1]] rfl (by (try simp only [List.map_toArray,List.map_cons,List.map_nil]);first|done|rfl|(simp only [List.length_drop,List.length_take];rfl)) ?_;(with_reducible refine (wageofficeref42_Valid.calls k _ _ l0_0 _ _ l0_1 true _ ?side1 ?side2 ?side3 ?side4 A6.out).mono ?_);(case side1=>repeat (first|exact (Kd.C_below HR0_0.out HB.out)|(with_reducible refine Kd.C_alloc ?_ _)|(with_reducible refine Kd.C_drewN ?_ _)|(with_reducible refine Kd.C_drew ?_)));(case side2=>exact HC0_0.out);(case side3=>repeat (first|exact (Kd.C_below HR0_1.out HB.out)|(with_reducible refine Kd.C_alloc ?_ _)|(with_reducible refine Kd.C_drewN ?_ _)|(with_reducible refine Kd.C_drew ?_)));(case side4=>exact HC0_1.out);rintro e w10 ⟨rfl,hb⟩;refine ⟨_,rfl,?_⟩;have n0_:=Aside0.mk (blk_below (g:=gb260) (o:=.cells #[.slice A0_0 l0_0.length c0_0,.slice A0_1 l0_1.length c0_1] 25 (0,0)) (by (with_reducible repeat (first|refine blk_drewN ?_ _|refine blk_drew ?_|refine blk_alloc ?_ _));exact BK260.out) hb);have n1_:=Aside0.mk (blk_below (g:=gb261) (o:=.cells #[.slice none 0 0,.slice none 0 0] 25 (0,0)) (by (with_reducible repeat (first|refine blk_drewN ?_ _|refine blk_drew ?_|refine blk_alloc ?_ _));exact BK261.out) hb);have n2_:=Aside0.mk (below_step (by repeat (first|(with_reducible first|exact HB.out|apply below_alloc|apply pw_below_drewN|apply below_drew1|refine below_set ?_ GE260.out|refine below_set ?_ GE261.out)|exact HB.out)) hb);clear BK260;clear BK261;clear HB;have BK260:=n0_;have BK261:=n1_;have HB:=n2_;clear n0_ n1_ n2_;(try clear hb);(try clear hb2);(try clear hk);(try clear hi)))
    go_meet
    case rel=>exact ⟨_,(((l1.length:Int) == 0)),(by first|rfl|(simp;done)|(simp [*];done)),H',⟨by first|omega|exact Nat.le_refl _⟩,⟨by (with_reducible repeat (first|refine blk_drewN ?_ _|refine blk_drew ?_|refine blk_alloc ?_ _));exact BK260.out⟩,⟨by (with_reducible repeat (first|refine blk_drewN ?_ _|refine blk_drew ?_|refine blk_alloc ?_ _));exact BK261.out⟩,⟨by repeat (first|(with_reducible first|exact HB.out|apply below_alloc|apply pw_below_drewN|apply below_drew1|refine below_set ?_ GE260.out|refine below_set ?_ GE261.out)|exact HB.out)⟩⟩
  · replace c7:=Bool.eq_false_iff.mpr c7
    subst c7
    have H1:(wageofficeref43_Append.j0 k l1 true l0_0 l0_1)=some (r1,r2,r3):=by rw [if_neg (show ¬ (false=true) by decide)] at H;exact H
    clear H
    have H:=H1
    clear H1
    have H':=Aside0.mk H
    clear H
    have hnb11:=NB260_261.out
    have hnc11:=NB261_260.out
    have hcz12_0:w5.cell? ⟨gb260,0,none⟩=some (.slice A0_0 l0_0.length c0_0):=(blk_cell BK260.out 0).trans rfl
    have hcz12_1:w5.cell? ⟨gb260,1,none⟩=some (.slice A0_1 l0_1.length c0_1):=(blk_cell BK260.out 1).trans rfl
    have hfz12_0:=blk_frozen BK260.out 0
    have hfz12_1:=blk_frozen BK260.out 1
    go_wp2_with (first|((with_reducible refine gate_callee (f:=31) rfl ?_);refine goesL_ (some 13) rfl rfl Try.func31 (by kernel_rfl) rfl #[.agg #[.slice A0_0 l0_0.length c0_0,.slice A0_1 l0_1.length c0_1]] rfl (by (try simp only [List.map_toArray,List.map_cons,List.map_nil]);first|done|rfl|(simp only [List.length_drop,List.length_take];rfl)) ?_;(with_reducible refine (wageofficeref42_Valid.calls k _ _ l0_0 _ _ l0_1 false _ ?side1 ?side2 ?side3 ?side4 A6.out).mono ?_);(case side1=>repeat (first|exact (Kd.C_below HR0_0.out HB.out)|(with_reducible refine Kd.C_alloc ?_ _)|(with_reducible refine Kd.C_drewN ?_ _)|(with_reducible refine Kd.C_drew ?_)));(case side2=>exact HC0_0.out);(case side3=>repeat (first|exact (Kd.C_below HR0_1.out HB.out)|(with_reducible refine Kd.C_alloc ?_ _)|(with_reducible refine Kd.C_drewN ?_ _)|(with_reducible refine Kd.C_drew ?_)));(case side4=>exact HC0_1.out);rintro e w13 ⟨rfl,hb⟩;refine ⟨_,rfl,?_⟩;have n0_:=Aside0.mk (blk_below (g:=gb260) (o:=.cells #[.slice A0_0 l0_0.length c0_0,.slice A0_1 l0_1.length c0_1] 25 (0,0)) (by (with_reducible repeat (first|refine blk_drewN ?_ _|refine blk_drew ?_|refine blk_alloc ?_ _));exact BK260.out) hb);have n1_:=Aside0.mk (blk_below (g:=gb261) (o:=.cells #[.slice none 0 0,.slice none 0 0] 25 (0,0)) (by (with_reducible repeat (first|refine blk_drewN ?_ _|refine blk_drew ?_|refine blk_alloc ?_ _));exact BK261.out) hb);have n2_:=Aside0.mk (below_step (by repeat (first|(with_reducible first|exact HB.out|apply below_alloc|apply pw_below_drewN|apply below_drew1|refine below_set ?_ GE260.out|refine below_set ?_ GE261.out)|exact HB.out)) hb);clear BK260;clear BK261;clear HB;have BK260:=n0_;have BK261:=n1_;have HB:=n2_;clear n0_ n1_ n2_;(try clear hb);(try clear hb2);(try clear hk);(try clear hi)))
    go_meet
    case rel=>exact ⟨_,(true),(by first|rfl|(simp;done)|(simp [*];done)),H',⟨by first|omega|exact Nat.le_refl _⟩,⟨by (with_reducible repeat (first|refine blk_drewN ?_ _|refine blk_drew ?_|refine blk_alloc ?_ _));exact BK260.out⟩,⟨by (with_reducible repeat (first|refine blk_drewN ?_ _|refine blk_drew ?_|refine blk_alloc ?_ _));exact BK261.out⟩,⟨by repeat (first|(with_reducible first|exact HB.out|apply below_alloc|apply pw_below_drewN|apply below_drew1|refine below_set ?_ GE260.out|refine below_set ?_ GE261.out)|exact HB.out)⟩⟩
 case rest =>
  clear HC3
  try clear c1
  try clear p2
  try clear c3
  try clear c7
  try clear c8
  try clear c11
  try clear hcz12_0
  try clear hcz12_1
  try clear hcz9_0
  try clear hcz9_1
  try clear hfz12_0
  try clear hfz12_1
  try clear hfz9_0
  try clear hfz9_1
  obtain ⟨kq,x19_2,rfl,HA,HJ2,BK260,BK261,HB⟩:=hcut
  cases kq with
  | zero=>exact absurd HA.out (by simp [wageofficeref43_Append.j0])
  | succ kj2 =>
   have H:=HA.out
   clear HA
   simp only [wageofficeref43_Append.j0] at H
   by_cases c14:x19_2=true
   · subst c14
     have H1:(some (([]:List Int),([]:List (S45)),1))=some (r1,r2,r3):=by rw [if_pos rfl] at H;exact H
     clear H
     have H:=H1
     clear H1
     simp only [Option.some.injEq,Prod.mk.injEq] at H
     obtain ⟨rfl,rfl,rfl⟩:=H
     have hnb15:=NB261_260.out
     have hnc15:=NB260_261.out
     have hcz16_0:wc.cell? ⟨gb261,0,none⟩=some (.slice none 0 0):=(blk_cell BK261.out 0).trans rfl
     have hcz16_1:wc.cell? ⟨gb261,1,none⟩=some (.slice none 0 0):=(blk_cell BK261.out 1).trans rfl
     have hfz16_0:=blk_frozen BK261.out 0
     have hfz16_1:=blk_frozen BK261.out 1
     go_wp2
     refine bodyPost_ret (results_ct rfl _ _ gb261 25 #[.slice none 0 0,.slice none 0 0] (0,0) _ rfl (by (with_reducible repeat (first|refine blk_drewN ?_ _|refine blk_drew ?_|refine blk_alloc ?_ _));refine blk_put (cs:=#[.slice none 0 0,.slice none 0 0]) ?_ 1 _ rfl;(with_reducible repeat (first|refine blk_drewN ?_ _|refine blk_drew ?_|refine blk_alloc ?_ _));refine blk_put (cs:=#[.slice none 0 0,.slice none 0 0]) ?_ 0 _ rfl;(with_reducible repeat (first|refine blk_drewN ?_ _|refine blk_drew ?_|refine blk_alloc ?_ _));exact BK261.out) Try.underlying25 rfl (by kernel_rfl)) rfl ?_
     exact ⟨_,_,by first|rfl|(simp [errW_none,errW_some] <;> rfl)|(simp [*,errW_none,errW_some] <;> rfl),by first|exact Kd.R_nil _ _ _ _ _|exact Kd.N_nil _ _ _ _ _|exact Kd.V_nil _ _ _ _ _|exact Kd.Q_nil _ _ _ _ _|exact Kd.S_nil _ _ _ _ _,by first|exact Kd.S_nil _ _ _ _ _|exact Kd.N_nil _ _ _ _ _|exact Kd.V_nil _ _ _ _ _|exact Kd.Q_nil _ _ _ _ _|exact Kd.R_nil _ _ _ _ _,by repeat (first|(with_reducible first|exact HB.out|apply below_alloc|apply pw_below_drewN|apply below_drew1|refine below_set ?_ GE260.out|refine below_set ?_ GE261.out)|exact HB.out)⟩
   · replace c14:=Bool.eq_false_iff.mpr c14
     subst c14
     have H1:((wageofficeref43_Records.f kj2 l0_0 l0_1).bind fun bt263=>(if (l1.length:Int) > 4096 then (wageofficeref43_Append.j1 kj2 l1 true l0_0 l0_1) else (wageofficeref43_Append.j1 kj2 l1 (decide ((wrap64 ((wrap64 (bt263.2 + 13)) + (l1.length:Int))) > (l0_0.length:Int))) l0_0 l0_1)))=some (r1,r2,r3):=by rw [if_neg (show ¬ (false=true) by decide)] at H;exact H
     clear H
     have H:=H1
     clear H1
     replace H:=Option.bind_eq_some_iff.mp H
     obtain ⟨⟨t263,t266⟩,A170,H⟩:=H
     replace H:(if (l1.length:Int) > 4096 then (wageofficeref43_Append.j1 kj2 l1 true l0_0 l0_1) else (wageofficeref43_Append.j1 kj2 l1 (decide ((wrap64 ((wrap64 (t266 + 13)) + (l1.length:Int))) > (l0_0.length:Int))) l0_0 l0_1))=some (r1,r2,r3):=H
     have A17:=Aside0.mk A170
     clear A170
     have HC18:=Aside0.mk H
     clear H
     have hnb19:=NB260_261.out
     have hnc19:=NB261_260.out
     have hcz20_0:wc.cell? ⟨gb260,0,none⟩=some (.slice A0_0 l0_0.length c0_0):=(blk_cell BK260.out 0).trans rfl
     have hcz20_1:wc.cell? ⟨gb260,1,none⟩=some (.slice A0_1 l0_1.length c0_1):=(blk_cell BK260.out 1).trans rfl
     have hfz20_0:=blk_frozen BK260.out 0
     have hfz20_1:=blk_frozen BK260.out 1
     go_upto_region 4 with (first|((with_reducible refine gate_callee (f:=37) rfl ?_);refine goesL_ (some 23) rfl rfl Try.func37 (by kernel_rfl) rfl #[.agg #[.slice A0_0 l0_0.length c0_0,.slice A0_1 l0_1.length c0_1]] rfl (by (try simp only [List.map_toArray,List.map_cons,List.map_nil]);first|done|rfl|(simp only [List.length_drop,List.length_take];rfl)) ?_;(with_reducible refine (wageofficeref43_Records.calls kj2 _ _ l0_0 _ _ l0_1 t263 t266 _ ?side1 ?side2 ?side3 ?side4 A17.out).mono ?_);(case side1=>repeat (first|exact (Kd.C_below HR0_0.out HB.out)|(with_reducible refine Kd.C_alloc ?_ _)|(with_reducible refine Kd.C_drewN ?_ _)|(with_reducible refine Kd.C_drew ?_)));(case side2=>exact HC0_0.out);(case side3=>repeat (first|exact (Kd.C_below HR0_1.out HB.out)|(with_reducible refine Kd.C_alloc ?_ _)|(with_reducible refine Kd.C_drewN ?_ _)|(with_reducible refine Kd.C_drew ?_)));(case side4=>exact HC0_1.out);rintro e w21 ⟨v264,rfl,ho0,hb⟩;refine ⟨_,rfl,?_⟩;have n0_:=Aside0.mk (Kd.N_lower (Kd.N_mono (ok':=fun k_=>(w.heap.size ≤ k_)∧k_ ≠ gb260∧k_ ≠ gb261) (Kd.S_N (Kd.S_bound ho0)) (fun k_ hk_=>⟨(Nat.le_trans (below_size (by repeat (first|(with_reducible first|exact HB.out|apply below_alloc|apply pw_below_drewN|apply below_drew1|refine below_set ?_ GE260.out|refine below_set ?_ GE261.out)|exact HB.out))) hk_.2.1),(Kd.freshB (g:=gb260) (o:=.cells #[.slice A0_0 l0_0.length c0_0,.slice A0_1 l0_1.length c0_1] 25 (0,0)) (by (with_reducible repeat (first|refine blk_drewN ?_ _|refine blk_drew ?_|refine blk_alloc ?_ _));exact BK260.out) k_ hk_.2.1),(Kd.freshB (g:=gb261) (o:=.cells #[.slice none 0 0,.slice none 0 0] 25 (0,0)) (by (with_reducible repeat (first|refine blk_drewN ?_ _|refine blk_drew ?_|refine blk_alloc ?_ _));exact BK261.out) k_ hk_.2.1)⟩)) (below_size (by repeat (first|(with_reducible first|exact HB.out|apply below_alloc|apply pw_below_drewN|apply below_drew1|refine below_set ?_ GE260.out|refine below_set ?_ GE261.out)|exact HB.out))));have n1_:=Aside0.mk (blk_below (g:=gb260) (o:=.cells #[.slice A0_0 l0_0.length c0_0,.slice A0_1 l0_1.length c0_1] 25 (0,0)) (by (with_reducible repeat (first|refine blk_drewN ?_ _|refine blk_drew ?_|refine blk_alloc ?_ _));exact BK260.out) hb);have n2_:=Aside0.mk (blk_below (g:=gb261) (o:=.cells #[.slice none 0 0,.slice none 0 0] 25 (0,0)) (by (with_reducible repeat (first|refine blk_drewN ?_ _|refine blk_drew ?_|refine blk_alloc ?_ _));exact BK261.out) hb);have n3_:=Aside0.mk (below_step (by repeat (first|(with_reducible first|exact HB.out|apply below_alloc|apply pw_below_drewN|apply below_drew1|refine below_set ?_ GE260.out|refine below_set ?_ GE261.out)|exact HB.out)) hb);clear BK260;clear BK261;clear HB;have HO265:=n0_;have BK260:=n1_;have BK261:=n2_;have HB:=n3_;clear n0_ n1_ n2_ n3_;(try clear hb);(try clear hb2);(try clear hk);(try clear hi);(try clear ho0)))
     (try simp only [Act.put,List.setIfInBounds_toArray,List.set_cons_zero,List.set_cons_succ])
     go_cut [39] (fun v39 wc=>∃ (kq:Nat) (x39_17:Bool),v39=.bool x39_17∧Aside0 (wageofficeref43_Append.j1 kq l1 x39_17 l0_0 l0_1=some (r1,r2,r3))∧Aside0 (kq ≤ kj2)∧Aside0 (wc.heap[gb260]? = some (.cells #[(.slice A0_0 l0_0.length c0_0),(.slice A0_1 l0_1.length c0_1)] 25 (0,0)))∧Aside0 (wc.heap[gb261]? = some (.cells #[(.slice none 0 0),(.slice none 0 0)] 25 (0,0)))∧Aside0 (Below w.heap.size w wc))
     case first =>
      have H:=HC18.out
      clear HC18
      by_cases c22:(l1.length:Int) > 4096
      · rw [if_pos c22] at H
        have c22b0:decide (4096 < (l1.length:Int))=true:=decide_eq_true c22
        have c22b1:decide (4096 < l1.length)=true:=decide_eq_true (by omega)
        clear c22
        (first|rw [c22b0]|(simp only [i64_w,i32_w];rw [c22b0])|skip)
        have H':=Aside0.mk H
        clear H
        go_wp2
        go_meet
        case rel=>exact ⟨_,(true),(by first|rfl|(simp;done)|(simp [*];done)),H',⟨by have:=HJ2.out;first|omega|exact Nat.le_refl _⟩,⟨by (with_reducible repeat (first|refine blk_drewN ?_ _|refine blk_drew ?_|refine blk_alloc ?_ _));exact BK260.out⟩,⟨by (with_reducible repeat (first|refine blk_drewN ?_ _|refine blk_drew ?_|refine blk_alloc ?_ _));exact BK261.out⟩,⟨by repeat (first|(with_reducible first|exact HB.out|apply below_alloc|apply pw_below_drewN|apply below_drew1|refine below_set ?_ GE260.out|refine below_set ?_ GE261.out)|exact HB.out)⟩⟩
      · rw [if_neg c22] at H
        have c22b0:decide (4096 < (l1.length:Int))=false:=decide_eq_false c22
        have c22b1:decide (4096 < l1.length)=false:=decide_eq_false (by omega)
        clear c22
        (first|rw [c22b0]|(simp only [i64_w,i32_w];rw [c22b0])|skip)
        have H':=Aside0.mk H
        clear H
        have hnb23:=NB260_261.out
        have hnc23:=NB261_260.out
        have hcz24_0:w21.cell? ⟨gb260,0,none⟩=some (.slice A0_0 l0_0.length c0_0):=(blk_cell BK260.out 0).trans rfl
        have hcz24_1:w21.cell? ⟨gb260,1,none⟩=some (.slice A0_1 l0_1.length c0_1):=(blk_cell BK260.out 1).trans rfl
        have hfz24_0:=blk_frozen BK260.out 0
        have hfz24_1:=blk_frozen BK260.out 1
        go_wp2
        go_meet
        case rel=>exact ⟨_,(decide ((wrap64 ((wrap64 (t266 + 13)) + (l1.length:Int))) > (l0_0.length:Int))),(by first|rfl|(simp;done)|(simp [*];done)),H',⟨by have:=HJ2.out;first|omega|exact Nat.le_refl _⟩,⟨by (with_reducible repeat (first|refine blk_drewN ?_ _|refine blk_drew ?_|refine blk_alloc ?_ _));exact BK260.out⟩,⟨by (with_reducible repeat (first|refine blk_drewN ?_ _|refine blk_drew ?_|refine blk_alloc ?_ _));exact BK261.out⟩,⟨by repeat (first|(with_reducible first|exact HB.out|apply below_alloc|apply pw_below_drewN|apply below_drew1|refine below_set ?_ GE260.out|refine below_set ?_ GE261.out)|exact HB.out)⟩⟩
     case rest =>
      clear HC18
      try clear c1
      try clear c2
      try clear p2
      try clear c3
      try clear p6
      try clear c7
      try clear c8
      try clear c11
      try clear c14
      try clear c15
      try clear c19
      try clear c22
      try clear c22b0
      try clear c22b1
      try clear c23
      try clear hcz12_0
      try clear hcz12_1
      try clear hcz16_0
      try clear hcz16_1
      try clear hcz20_0
      try clear hcz20_1
      try clear hcz24_0
      try clear hcz24_1
      try clear hcz9_0
      try clear hcz9_1
      try clear hfz12_0
      try clear hfz12_1
      try clear hfz16_0
      try clear hfz16_1
      try clear hfz20_0
      try clear hfz20_1
      try clear hfz24_0
      try clear hfz24_1
      try clear hfz9_0
      try clear hfz9_1
      try clear p2
      obtain ⟨kq,x39_17,rfl,HA,HJ17,BK260,BK261,HB⟩:=hcut
      cases kq with
      | zero=>exact absurd HA.out (by simp [wageofficeref43_Append.j1])
      | succ kj17 =>
       have H:=HA.out
       clear HA
       simp only [wageofficeref43_Append.j1] at H
       by_cases c25:x39_17=true
       · subst c25
         have H1:(some (([]:List Int),([]:List (S45)),2))=some (r1,r2,r3):=by rw [if_pos rfl] at H;exact H
         clear H
         have H:=H1
         clear H1
         simp only [Option.some.injEq,Prod.mk.injEq] at H
         obtain ⟨rfl,rfl,rfl⟩:=H
         have hnb26:=NB261_260.out
         have hnc26:=NB260_261.out
         have hcz27_0:wc.cell? ⟨gb261,0,none⟩=some (.slice none 0 0):=(blk_cell BK261.out 0).trans rfl
         have hcz27_1:wc.cell? ⟨gb261,1,none⟩=some (.slice none 0 0):=(blk_cell BK261.out 1).trans rfl
         have hfz27_0:=blk_frozen BK261.out 0
         have hfz27_1:=blk_frozen BK261.out 1
         go_wp2
         refine bodyPost_ret (results_ct rfl _ _ gb261 25 #[.slice none 0 0,.slice none 0 0] (0,0) _ rfl (by (with_reducible repeat (first|refine blk_drewN ?_ _|refine blk_drew ?_|refine blk_alloc ?_ _));refine blk_put (cs:=#[.slice none 0 0,.slice none 0 0]) ?_ 1 _ rfl;(with_reducible repeat (first|refine blk_drewN ?_ _|refine blk_drew ?_|refine blk_alloc ?_ _));refine blk_put (cs:=#[.slice none 0 0,.slice none 0 0]) ?_ 0 _ rfl;(with_reducible repeat (first|refine blk_drewN ?_ _|refine blk_drew ?_|refine blk_alloc ?_ _));exact BK261.out) Try.underlying25 rfl (by kernel_rfl)) rfl ?_
         exact ⟨_,_,by first|rfl|(simp [errW_none,errW_some] <;> rfl)|(simp [*,errW_none,errW_some] <;> rfl),by first|exact Kd.R_nil _ _ _ _ _|exact Kd.N_nil _ _ _ _ _|exact Kd.V_nil _ _ _ _ _|exact Kd.Q_nil _ _ _ _ _|exact Kd.S_nil _ _ _ _ _,by first|exact Kd.S_nil _ _ _ _ _|exact Kd.N_nil _ _ _ _ _|exact Kd.V_nil _ _ _ _ _|exact Kd.Q_nil _ _ _ _ _|exact Kd.R_nil _ _ _ _ _,by repeat (first|(with_reducible first|exact HB.out|apply below_alloc|apply pw_below_drewN|apply below_drew1|refine below_set ?_ GE260.out|refine below_set ?_ GE261.out)|exact HB.out)⟩
       · replace c25:=Bool.eq_false_iff.mpr c25
         subst c25
         have H1:((wageofficeref43_Writes.f kj17 l0_0 l0_1 l1).bind fun t267=>((wageofficeref42_Sync.f kj17 l0_0 l0_1).bind fun bt270=>(wageofficeref43_Append.l0 kj17 t267 0 bt270.1 bt270.2)))=some (r1,r2,r3):=by rw [if_neg (show ¬ (false=true) by decide)] at H;exact H
         clear H
         have H:=H1
         clear H1
         replace H:=Option.bind_eq_some_iff.mp H
         obtain ⟨t267,A280,H⟩:=H
         replace H:((wageofficeref42_Sync.f kj17 l0_0 l0_1).bind fun bt270=>(wageofficeref43_Append.l0 kj17 t267 0 bt270.1 bt270.2))=some (r1,r2,r3):=H
         have A28:=Aside0.mk A280
         clear A280
         replace H:=Option.bind_eq_some_iff.mp H
         obtain ⟨⟨t270,t273⟩,A290,H⟩:=H
         replace H:(wageofficeref43_Append.l0 kj17 t267 0 t270 t273)=some (r1,r2,r3):=H
         have A29:=Aside0.mk A290
         clear A290
         have H':=Aside0.mk H
         clear H
         have hnb30:=NB260_261.out
         have hnc30:=NB261_260.out
         have hcz31_0:wc.cell? ⟨gb260,0,none⟩=some (.slice A0_0 l0_0.length c0_0):=(blk_cell BK260.out 0).trans rfl
         have hcz31_1:wc.cell? ⟨gb260,1,none⟩=some (.slice A0_1 l0_1.length c0_1):=(blk_cell BK260.out 1).trans rfl
         have hfz31_0:=blk_frozen BK260.out 0
         have hfz31_1:=blk_frozen BK260.out 1
         go_wp2_with (first|((with_reducible refine gate_callee (f:=42) rfl ?_);refine goesL_ (some 43) rfl rfl Try.func42 (by kernel_rfl) rfl #[.agg #[.slice A0_0 l0_0.length c0_0,.slice A0_1 l0_1.length c0_1],.slice A1 l1.length c1] rfl (by (try simp only [List.map_toArray,List.map_cons,List.map_nil]);first|done|rfl|(simp only [List.length_drop,List.length_take];rfl)) ?_;(with_reducible refine (wageofficeref43_Writes.calls kj17 _ _ l0_0 _ _ l0_1 _ _ l1 t267 _ ?side1 ?side2 ?side3 ?side4 ?side5 ?side6 A28.out).mono ?_);(case side1=>repeat (first|exact (Kd.C_below HR0_0.out HB.out)|(with_reducible refine Kd.C_alloc ?_ _)|(with_reducible refine Kd.C_drewN ?_ _)|(with_reducible refine Kd.C_drew ?_)));(case side2=>exact HC0_0.out);(case side3=>repeat (first|exact (Kd.C_below HR0_1.out HB.out)|(with_reducible refine Kd.C_alloc ?_ _)|(with_reducible refine Kd.C_drewN ?_ _)|(with_reducible refine Kd.C_drew ?_)));(case side4=>exact HC0_1.out);(case side5=>repeat (first|exact (Kd.C_below HR1.out HB.out)|(with_reducible refine Kd.C_alloc ?_ _)|(with_reducible refine Kd.C_drewN ?_ _)|(with_reducible refine Kd.C_drew ?_)));(case side6=>exact HC1.out);rintro e w32 ⟨v268,rfl,ho0,hb⟩;refine ⟨_,rfl,?_⟩;have n0_:=Aside0.mk (Kd.N_lower (Kd.N_mono (ok':=fun k_=>(w.heap.size ≤ k_)∧k_ ≠ gb260∧k_ ≠ gb261) ho0 (fun k_ hk_=>⟨(Nat.le_trans (below_size (by repeat (first|(with_reducible first|exact HB.out|apply below_alloc|apply pw_below_drewN|apply below_drew1|refine below_set ?_ GE260.out|refine below_set ?_ GE261.out)|exact HB.out))) hk_),(Kd.freshB (g:=gb260) (o:=.cells #[.slice A0_0 l0_0.length c0_0,.slice A0_1 l0_1.length c0_1] 25 (0,0)) (by (with_reducible repeat (first|refine blk_drewN ?_ _|refine blk_drew ?_|refine blk_alloc ?_ _));exact BK260.out) k_ hk_),(Kd.freshB (g:=gb261) (o:=.cells #[.slice none 0 0,.slice none 0 0] 25 (0,0)) (by (with_reducible repeat (first|refine blk_drewN ?_ _|refine blk_drew ?_|refine blk_alloc ?_ _));exact BK261.out) k_ hk_)⟩)) (below_size (by repeat (first|(with_reducible first|exact HB.out|apply below_alloc|apply pw_below_drewN|apply below_drew1|refine below_set ?_ GE260.out|refine below_set ?_ GE261.out)|exact HB.out))));have n1_:=Aside0.mk (blk_below (g:=gb260) (o:=.cells #[.slice A0_0 l0_0.length c0_0,.slice A0_1 l0_1.length c0_1] 25 (0,0)) (by (with_reducible repeat (first|refine blk_drewN ?_ _|refine blk_drew ?_|refine blk_alloc ?_ _));exact BK260.out) hb);have n2_:=Aside0.mk (blk_below (g:=gb261) (o:=.cells #[.slice none 0 0,.slice none 0 0] 25 (0,0)) (by (with_reducible repeat (first|refine blk_drewN ?_ _|refine blk_drew ?_|refine blk_alloc ?_ _));exact BK261.out) hb);have n3_:=Aside0.mk (below_step (by repeat (first|(with_reducible first|exact HB.out|apply below_alloc|apply pw_below_drewN|apply below_drew1|refine below_set ?_ GE260.out|refine below_set ?_ GE261.out)|exact HB.out)) hb);clear BK260;clear BK261;clear HB;have HO269:=n0_;have BK260:=n1_;have BK261:=n2_;have HB:=n3_;clear n0_ n1_ n2_ n3_;(try clear hb);(try clear hb2);(try clear hk);(try clear hi);(try clear ho0);have hcz33_0:w32.cell? ⟨gb260,0,none⟩=some (.slice A0_0 l0_0.length c0_0):=(blk_cell BK260.out 0).trans rfl;have hcz33_1:w32.cell? ⟨gb260,1,none⟩=some (.slice A0_1 l0_1.length c0_1):=(blk_cell BK260.out 1).trans rfl;have hfz33_0:=blk_frozen BK260.out 0;have hfz33_1:=blk_frozen BK260.out 1)|((with_reducible refine gate_callee (f:=27) rfl ?_);refine goesL_ (some 45) rfl rfl Try.func27 (by kernel_rfl) rfl #[.agg #[.slice A0_0 l0_0.length c0_0,.slice A0_1 l0_1.length c0_1]] rfl (by (try simp only [List.map_toArray,List.map_cons,List.map_nil]);first|done|rfl|(simp only [List.length_drop,List.length_take];rfl)) ?_;(with_reducible refine (wageofficeref42_Sync.calls kj17 _ _ l0_0 _ _ l0_1 t270 t273 _ ?side1 ?side2 ?side3 ?side4 A29.out).mono ?_);(case side1=>repeat (first|exact (Kd.C_below HR0_0.out HB.out)|(with_reducible refine Kd.C_alloc ?_ _)|(with_reducible refine Kd.C_drewN ?_ _)|(with_reducible refine Kd.C_drew ?_)));(case side2=>exact HC0_0.out);(case side3=>repeat (first|exact (Kd.C_below HR0_1.out HB.out)|(with_reducible refine Kd.C_alloc ?_ _)|(with_reducible refine Kd.C_drewN ?_ _)|(with_reducible refine Kd.C_drew ?_)));(case side4=>exact HC0_1.out);rintro e w34 ⟨v271,v274,rfl,ho0,ho1,hb⟩;refine ⟨_,rfl,?_⟩;have n0_:=Aside0.mk (Kd.N_mono (Kd.N_told (Kd.N_told (Kd.N_old (by (with_reducible repeat (first|apply Kd.N_alloc|apply Kd.N_drewN|apply Kd.N_drew));exact HO269.out) hb) (Kd.R_base ho0)) (Kd.N_base (Kd.S_N ho1))) (fun _ h_=>h_.1));have n1_:=Aside0.mk (Kd.R_lower (Kd.R_newM (M:=fun k_=>(w.heap.size ≤ k_)) ho0 (below_size (by repeat (first|(with_reducible first|exact HB.out|apply below_alloc|apply pw_below_drewN|apply below_drew1|refine below_set ?_ GE260.out|refine below_set ?_ GE261.out)|exact HB.out))) (fun k_ h_=>h_)) (below_size (by repeat (first|(with_reducible first|exact HB.out|apply below_alloc|apply pw_below_drewN|apply below_drew1|refine below_set ?_ GE260.out|refine below_set ?_ GE261.out)|exact HB.out))));have n2_:=Aside0.mk (Kd.N_lower (Kd.N_mono (ok':=fun k_=>(w.heap.size ≤ k_)∧some k_ ≠ (v271:Value).ownBlock∧some k_ ≠ (v268:Value).ownBlock∧k_ ≠ gb260∧k_ ≠ gb261) (Kd.S_N (Kd.S_bound ho1)) (fun k_ hk_=>⟨(Nat.le_trans (below_size (by repeat (first|(with_reducible first|exact HB.out|apply below_alloc|apply pw_below_drewN|apply below_drew1|refine below_set ?_ GE260.out|refine below_set ?_ GE261.out)|exact HB.out))) hk_.2.1),hk_.1,(Kd.fresh' (Kd.N_lt (by (with_reducible repeat (first|apply Kd.N_alloc|apply Kd.N_drewN|apply Kd.N_drew));exact HO269.out)) k_ hk_.2.1),(Kd.freshB (g:=gb260) (o:=.cells #[.slice A0_0 l0_0.length c0_0,.slice A0_1 l0_1.length c0_1] 25 (0,0)) (by (with_reducible repeat (first|refine blk_drewN ?_ _|refine blk_drew ?_|refine blk_alloc ?_ _));exact BK260.out) k_ hk_.2.1),(Kd.freshB (g:=gb261) (o:=.cells #[.slice none 0 0,.slice none 0 0] 25 (0,0)) (by (with_reducible repeat (first|refine blk_drewN ?_ _|refine blk_drew ?_|refine blk_alloc ?_ _));exact BK261.out) k_ hk_.2.1)⟩)) (below_size (by repeat (first|(with_reducible first|exact HB.out|apply below_alloc|apply pw_below_drewN|apply below_drew1|refine below_set ?_ GE260.out|refine below_set ?_ GE261.out)|exact HB.out))));have n3_:=Aside0.mk (blk_below (g:=gb260) (o:=.cells #[.slice A0_0 l0_0.length c0_0,.slice A0_1 l0_1.length c0_1] 25 (0,0)) (by (with_reducible repeat (first|refine blk_drewN ?_ _|refine blk_drew ?_|refine blk_alloc ?_ _));exact BK260.out) hb);have n4_:=Aside0.mk (blk_below (g:=gb261) (o:=.cells #[.slice none 0 0,.slice none 0 0] 25 (0,0)) (by (with_reducible repeat (first|refine blk_drewN ?_ _|refine blk_drew ?_|refine blk_alloc ?_ _));exact BK261.out) hb);have n5_:=Aside0.mk (below_step (by repeat (first|(with_reducible first|exact HB.out|apply below_alloc|apply pw_below_drewN|apply below_drew1|refine below_set ?_ GE260.out|refine below_set ?_ GE261.out)|exact HB.out)) hb);clear HO269;clear BK260;clear BK261;clear HB;have HO269:=n0_;have HO272:=n1_;have HO275:=n2_;have BK260:=n3_;have BK261:=n4_;have HB:=n5_;clear n0_ n1_ n2_ n3_ n4_ n5_;(try clear hb);(try clear hb2);(try clear hk);(try clear hi);(try clear ho0);(try clear ho1);obtain ⟨Ao35,co35,eo35⟩:=Kd.R_slice HO272.out;subst eo35;have hcz36_0:w34.cell? ⟨gb260,0,none⟩=some (.slice A0_0 l0_0.length c0_0):=(blk_cell BK260.out 0).trans rfl;have hcz36_1:w34.cell? ⟨gb260,1,none⟩=some (.slice A0_1 l0_1.length c0_1):=(blk_cell BK260.out 1).trans rfl;have hfz36_0:=blk_frozen BK260.out 0;have hfz36_1:=blk_frozen BK260.out 1;obtain ⟨Ao37,co37,eo37⟩:=Kd.N_slice HO275.out;subst eo37))
         go_loopg [9] kj17 (fun kq v9 w'=>∃ (x9_3:Int) (x261000_3:List Int) (x261001_3:List (S45)) (u261000:Value) (u261001:Value),v9=.int .i64 x9_3∧Aside0 (wageofficeref43_Append.l0 kq t267 x9_3 x261000_3 x261001_3=some (r1,r2,r3))∧Aside0 (kq ≤ kj17)∧Aside0 (Kd.N k45 45 w' w.heap.size (fun k_=>(w.heap.size ≤ k_)∧some k_ ≠ (u261000:Value).ownBlock∧some k_ ≠ (u261001:Value).ownBlock∧k_ ≠ gb260∧k_ ≠ gb261) v268 t267)∧Aside0 (Kd.R (Kd.int .u8) 5 w' w.heap.size (fun k_=>(w.heap.size ≤ k_)) u261000 x261000_3)∧Aside0 (Kd.N k45 45 w' w.heap.size (fun k_=>(w.heap.size ≤ k_)∧some k_ ≠ (v268:Value).ownBlock∧some k_ ≠ (u261000:Value).ownBlock∧k_ ≠ gb260∧k_ ≠ gb261) u261001 x261001_3)∧Aside0 (w'.heap[gb260]? = some (.cells #[u261000,u261001] 25 (0,0)))∧Aside0 (w'.heap[gb261]? = some (.cells #[(.slice none 0 0),(.slice none 0 0)] 25 (0,0)))∧Aside0 (Below w.heap.size w w'))
         case atStart=>exact ⟨(0),(t270),(t273),(.slice Ao35 t270.length co35),(.slice Ao37 t273.length co37),(by first|rfl|(simp;done)|(simp [*];done)),H',⟨Nat.le_refl _⟩,⟨by (with_reducible repeat (first|apply Kd.N_alloc|apply Kd.N_drewN|apply Kd.N_drew));exact Kd.N_mono (Kd.N_far (p:=⟨gb260,1,none⟩) (Kd.N_far (p:=⟨gb260,0,none⟩) (Kd.N_mono HO269.out (fun k_ hk=>(⟨hk,hk.1.1.2.1⟩:_∧k_ ≠ gb260))) (fun _ hk=>hk.2) (.slice Ao35 t270.length co35)) (fun _ hk=>hk.2) (.slice Ao37 t273.length co37)) (fun _ hk=>⟨hk.1.1.1.1,⟨hk.1.1.2,⟨hk.1.2,⟨hk.1.1.1.2.1,hk.1.1.1.2.2⟩⟩⟩⟩)⟩,⟨by (with_reducible repeat (first|apply Kd.R_alloc|apply Kd.R_drewN|apply Kd.R_drew));exact Kd.R_mono (Kd.R_far (p:=⟨gb260,1,none⟩) (Kd.R_far (p:=⟨gb260,0,none⟩) (Kd.R_types HO272.out BK260.out (by decide)) (fun _ hk=>hk.2) (.slice Ao35 t270.length co35)) (fun _ hk=>hk.2) (.slice Ao37 t273.length co37)) (fun _ hk=>hk.1.1)⟩,⟨by (with_reducible repeat (first|apply Kd.N_alloc|apply Kd.N_drewN|apply Kd.N_drew));exact Kd.N_mono (Kd.N_far (p:=⟨gb260,1,none⟩) (Kd.N_far (p:=⟨gb260,0,none⟩) (Kd.N_mono HO275.out (fun k_ hk=>(⟨hk,hk.2.2.2.1⟩:_∧k_ ≠ gb260))) (fun _ hk=>hk.2) (.slice Ao35 t270.length co35)) (fun _ hk=>hk.2) (.slice Ao37 t273.length co37)) (fun _ hk=>⟨hk.1.1,⟨hk.1.2.2.1,⟨hk.1.2.1,⟨hk.1.2.2.2.1,hk.1.2.2.2.2⟩⟩⟩⟩)⟩,⟨by (with_reducible repeat (first|refine blk_drewN ?_ _|refine blk_drew ?_|refine blk_alloc ?_ _));refine blk_put (cs:=#[.slice Ao35 t270.length co35,.slice A0_1 l0_1.length c0_1]) ?_ 1 _ rfl;(with_reducible repeat (first|refine blk_drewN ?_ _|refine blk_drew ?_|refine blk_alloc ?_ _));refine blk_put (cs:=#[.slice A0_0 l0_0.length c0_0,.slice A0_1 l0_1.length c0_1]) ?_ 0 _ rfl;(with_reducible repeat (first|refine blk_drewN ?_ _|refine blk_drew ?_|refine blk_alloc ?_ _));exact BK260.out⟩,⟨by (with_reducible repeat (first|refine blk_drewN ?_ _|refine blk_drew ?_|refine blk_alloc ?_ _));refine blk_far ?_ NB261_260.out _;(with_reducible repeat (first|refine blk_drewN ?_ _|refine blk_drew ?_|refine blk_alloc ?_ _));refine blk_far ?_ NB261_260.out _;(with_reducible repeat (first|refine blk_drewN ?_ _|refine blk_drew ?_|refine blk_alloc ?_ _));exact BK261.out⟩,⟨by repeat (first|(with_reducible first|exact HB.out|apply below_alloc|apply pw_below_drewN|apply below_drew1|refine below_set ?_ GE260.out|refine below_set ?_ GE261.out)|exact HB.out)⟩⟩
         case round =>
          clear H'
          try clear c1
          try clear c2
          try clear p2
          try clear c3
          try clear c4
          try clear p6
          try clear c7
          try clear c8
          try clear c11
          try clear c14
          try clear c15
          try clear c19
          try clear c22
          try clear c22b0
          try clear c22b1
          try clear c23
          try clear c25
          try clear c26
          try clear c27
          try clear c30
          try clear c31
          try clear c35
          try clear c37
          try clear hcz12_0
          try clear hcz12_1
          try clear hcz16_0
          try clear hcz16_1
          try clear hcz20_0
          try clear hcz20_1
          try clear hcz24_0
          try clear hcz24_1
          try clear hcz27_0
          try clear hcz27_1
          try clear hcz31_0
          try clear hcz31_1
          try clear hcz33_0
          try clear hcz33_1
          try clear hcz36_0
          try clear hcz36_1
          try clear hcz9_0
          try clear hcz9_1
          try clear hfz12_0
          try clear hfz12_1
          try clear hfz16_0
          try clear hfz16_1
          try clear hfz20_0
          try clear hfz20_1
          try clear hfz24_0
          try clear hfz24_1
          try clear hfz27_0
          try clear hfz27_1
          try clear hfz31_0
          try clear hfz31_1
          try clear hfz33_0
          try clear hfz33_1
          try clear hfz36_0
          try clear hfz36_1
          try clear hfz9_0
          try clear hfz9_1
          try clear p2
          try clear p6
          obtain ⟨x9_3,x261000_3,x261001_3,u261000,u261001,rfl,HA,HK3,HO_8,HO_261000,HO_261001,BK260,BK261,HB⟩:=hrel
          cases gk with
          | zero=>exact absurd HA.out (by simp [wageofficeref43_Append.l0])
          | succ k3 =>
           have H:=HA.out
           clear HA
           simp only [wageofficeref43_Append.l0] at H
           by_cases c38:x9_3 < (t267.length:Int)
           · rw [if_pos c38] at H
             have c38b0:decide (x9_3 < (t267.length:Int))=true:=decide_eq_true c38
             clear c38
             by_cases c39:0 ≤ x9_3
             · rw [if_pos c39] at H
               have c39b0:decide (0 ≤ x9_3)=true:=decide_eq_true c39
               clear c39
               replace H:=Option.bind_eq_some_iff.mp H
               obtain ⟨⟨t278,t281,t284⟩,A400,H⟩:=H
               replace H:((wageofficeref42_Sync.f k3 t278 t281).bind fun bt286=>(wageofficeref43_Append.l0 k3 t267 (wrap64 (x9_3 + 1)) bt286.1 bt286.2))=some (r1,r2,r3):=H
               have A40:=Aside0.mk A400
               clear A400
               replace H:=Option.bind_eq_some_iff.mp H
               obtain ⟨⟨t286,t289⟩,A410,H⟩:=H
               replace H:(wageofficeref43_Append.l0 k3 t267 (wrap64 (x9_3 + 1)) t286 t289)=some (r1,r2,r3):=H
               have A41:=Aside0.mk A410
               clear A410
               have H':=Aside0.mk H
               clear H
               obtain ⟨Ao42,co42,eo42⟩:=Kd.N_slice HO_8.out
               subst eo42
               obtain ⟨Ao43,co43,eo43⟩:=Kd.R_slice HO_261000.out
               subst eo43
               obtain ⟨Ao44,co44,eo44⟩:=Kd.N_slice HO_261001.out
               subst eo44
               try go_wp2
               have n0_:=Aside0.mk (Kd.N_drew HO_8.out)
               have n1_:=Aside0.mk (Kd.R_drew HO_261000.out)
               have n2_:=Aside0.mk (Kd.N_drew HO_261001.out)
               have n3_:=Aside0.mk (blk_drew BK260.out)
               have n4_:=Aside0.mk (blk_drew BK261.out)
               have n5_:=Aside0.mk (below_drew1 HB.out)
               clear HO_8
               clear HO_261000
               clear HO_261001
               clear BK260
               clear BK261
               clear HB
               have HO_8:=n0_
               have HO_261000:=n1_
               have HO_261001:=n2_
               have BK260:=n3_
               have BK261:=n4_
               have HB:=n5_
               clear n0_ n1_ n2_ n3_ n4_ n5_
               have p276:0 ≤ (x9_3:Int):=of_decide_eq_true (by first|(with_reducible assumption)|assumption)
               have q276:x9_3 < (t267.length:Int):=of_decide_eq_true (by first|(with_reducible assumption)|assumption)
               obtain ⟨ad276,A276_1,c276_1,e276,hx276_0,hx276_1,hl276_1,hi276_1⟩:=at_T45 (Kd.N_reads' HO_8.out).2.2 x9_3 p276 q276
               cases e276
               obtain ⟨ce276,hce276,hMe276,hcc276⟩:=Kd.N_get HO_8.out z45 x9_3 p276 (by first|exact q276|exact of_decide_eq_true (by first|(with_reducible assumption)|assumption)|(have e_:=(Kd.N_reads' HO_8.out).1;omega))
               obtain ⟨ua276_1,uc276_1,rfl,ul276_1,ge276_1⟩:=k45_openF hMe276
               have hv276_1:=hcc276 1 _ rfl
               rw [add_field _ _ 1 (by omega)] at hv276_1
               replace hv276_1:=Option.some.inj (hv276_1.symm.trans hx276_1)
               injection hv276_1 with hva_ hvn_ hvc_
               rw [hva_] at ge276_1
               rw [hvc_] at ul276_1
               have HL276_1:=Aside0.mk (show Kd.V (Kd.int .u8) 5 _ w.heap.size _ _ ((rd_T45 t267 x9_3).f1) from Kd.V_mk ul276_1 ge276_1)
               clear hva_ hvn_ hvc_ ge276_1 ul276_1
               clear hcc276 hce276
               have HR276_1:=Aside0.mk hi276_1
               have HC276_1:=Aside0.mk hl276_1
               clear hi276_1 hl276_1
               replace p276:=eq_true p276
               replace q276:=eq_true q276
               have p277:0 ≤ (x9_3:Int):=of_decide_eq_true (by first|(with_reducible assumption)|assumption)
               have q277:x9_3 < (t267.length:Int):=of_decide_eq_true (by first|(with_reducible assumption)|assumption)
               obtain ⟨ad277,A277_1,c277_1,e277,hx277_0,hx277_1,hl277_1,hi277_1⟩:=at_T45 (Kd.N_reads' HO_8.out).2.2 x9_3 p277 q277
               obtain rfl:ad276=ad277:=(by injection e277)
               obtain ⟨ce277,hce277,hMe277,hcc277⟩:=Kd.N_get HO_8.out z45 x9_3 p277 (by first|exact q277|exact of_decide_eq_true (by first|(with_reducible assumption)|assumption)|(have e_:=(Kd.N_reads' HO_8.out).1;omega))
               obtain ⟨ua277_1,uc277_1,rfl,ul277_1,ge277_1⟩:=k45_openF hMe277
               have hv277_1:=hcc277 1 _ rfl
               rw [add_field _ _ 1 (by omega)] at hv277_1
               replace hv277_1:=Option.some.inj (hv277_1.symm.trans hx277_1)
               injection hv277_1 with hva_ hvn_ hvc_
               rw [hva_] at ge277_1
               rw [hvc_] at ul277_1
               have HL277_1:=Aside0.mk (show Kd.V (Kd.int .u8) 5 _ w.heap.size _ _ ((rd_T45 t267 x9_3).f1) from Kd.V_mk ul277_1 ge277_1)
               clear hva_ hvn_ hvc_ ge277_1 ul277_1
               clear hcc277 hce277
               have HR277_1:=Aside0.mk hi277_1
               have HC277_1:=Aside0.mk hl277_1
               clear hi277_1 hl277_1
               replace p277:=eq_true p277
               replace q277:=eq_true q277
               have ea_:=Option.some.inj (hx276_1.symm.trans hx277_1)
               injection ea_ with ea_ en_ ec_
               subst ea_
               subst ec_
               clear en_
               refine start_ (n:=18) (S:=fun w'=>w'.cell? ⟨gb260,0,none⟩=some (.slice Ao43 x261000_3.length co43)∧w'.cell? ⟨gb260,1,none⟩=some (.slice Ao44 x261001_3.length co44)∧w'.cell? (ad276.add ((x9_3).toNat * 2))=some (.int .i64 ((rd_T45 t267 x9_3).f0))∧w'.cell? ⟨(ad276.add ((x9_3).toNat * 2)).block,(ad276.add ((x9_3).toNat * 2)).off + 1,none⟩=some (.slice A276_1 ((rd_T45 t267 x9_3).f1).length c276_1)∧w'.cell? (ad276.add ((x9_3).toNat * 2))=some (.int .i64 ((rd_T45 t267 x9_3).f0))∧w'.cell? ⟨(ad276.add ((x9_3).toNat * 2)).block,(ad276.add ((x9_3).toNat * 2)).off + 1,none⟩=some (.slice A276_1 ((rd_T45 t267 x9_3).f1).length c276_1)) (ds:=[]) #[false,false,false,false,false,false,false,false,false,false,false,false,false,false,false,false,false,false] (by kernel_rfl) rfl rfl ⟨(blk_cell BK260.out 0).trans rfl,(blk_cell BK260.out 1).trans rfl,hx276_0,hx276_1,hx277_0,hx277_1⟩ (fun hHeld => ?_);refine with_tabW wageofficeref43_Append.tab11 wageofficeref43_Append.bits11 (fun HT_ HW_ => ?_)
               generalize wr.drew=w45 at HO_8 HO_261000 HO_261001 BK260 BK261 HB HL276_1 HL277_1 HR276_1 HR277_1 hx276_0 hx276_1 hx277_0 hx277_1 hHeld ⊢
               refine pure_ (i:=1) (N:=some 54) (v:=?_) (a':=?_) #[false,true,false,false,false,false,false,false,false,false,false,false,false,false,false,false,false,false] rfl rfl (any_of HT_.out (by kernel_rfl)) (fun _ _ _ h=>h) (Or.inl ⟨by rfl,?_⟩) ?_ ?_
               rotate_left
               · intro w'
                 go_simp
                 with_reducible rfl
               rotate_left
               · simp only [Act.put,List.setIfInBounds_toArray,List.set_cons_zero,List.set_cons_succ,i64_w,i32_w]
                 rfl
               refine pure_ (i:=2) (N:=some 55) (v:=?_) (a':=?_) #[false,true,true,false,false,false,false,false,false,false,false,false,false,false,false,false,false,false] rfl rfl (any_of HT_.out (by kernel_rfl)) (fun _ _ _ h=>h) (Or.inl ⟨by rfl,?_⟩) ?_ ?_
               rotate_left
               · intro w'
                 go_simp
                 with_reducible rfl
               rotate_left
               · simp only [Act.put,List.setIfInBounds_toArray,List.set_cons_zero,List.set_cons_succ,i64_w,i32_w]
                 rfl
               refine pure_ (i:=3) (N:=some 56) (v:=?_) (a':=?_) #[false,true,true,true,false,false,false,false,false,false,false,false,false,false,false,false,false,false] rfl rfl (any_of HT_.out (by kernel_rfl)) (fun _ _ _ h=>h) (Or.inl ⟨by rfl,?_⟩) ?_ ?_
               rotate_left
               · intro w'
                 go_simp
                 with_reducible rfl
               rotate_left
               · simp only [Act.put,List.setIfInBounds_toArray,List.set_cons_zero,List.set_cons_succ,i64_w,i32_w]
                 rfl
               refine pure_ (i:=4) (N:=some 57) (v:=?_) (a':=?_) #[false,true,true,true,true,false,false,false,false,false,false,false,false,false,false,false,false,false] rfl rfl (any_of HT_.out (by kernel_rfl)) (fun _ _ _ h=>h) (Or.inl ⟨by rfl,?_⟩) ?_ ?_
               rotate_left
               · intro w'
                 go_simp
                 with_reducible rfl
               rotate_left
               · simp only [Act.put,List.setIfInBounds_toArray,List.set_cons_zero,List.set_cons_succ,i64_w,i32_w]
                 rfl
               refine pure_ (i:=6) (N:=some 59) (v:=?_) (a':=?_) #[false,true,true,true,true,false,true,false,false,false,false,false,false,false,false,false,false,false] rfl rfl (any_of HT_.out (by kernel_rfl)) (fun _ _ _ h=>h) (Or.inl ⟨by rfl,?_⟩) ?_ ?_
               rotate_left
               · intro w'
                 go_simp
                 with_reducible rfl
               rotate_left
               · simp only [Act.put,List.setIfInBounds_toArray,List.set_cons_zero,List.set_cons_succ,i64_w,i32_w]
                 rfl
               refine pure_ (i:=7) (N:=some 60) (v:=?_) (a':=?_) #[false,true,true,true,true,false,true,true,false,false,false,false,false,false,false,false,false,false] rfl rfl (any_of HT_.out (by kernel_rfl)) (fun _ _ _ h=>h) (Or.inl ⟨by rfl,?_⟩) ?_ ?_
               rotate_left
               · intro w'
                 go_simp
                 with_reducible rfl
               rotate_left
               · simp only [Act.put,List.setIfInBounds_toArray,List.set_cons_zero,List.set_cons_succ,i64_w,i32_w]
                 rfl
               refine pure_ (i:=8) (N:=some 61) (v:=?_) (a':=?_) #[false,true,true,true,true,false,true,true,true,false,false,false,false,false,false,false,false,false] rfl rfl (any_of HT_.out (by kernel_rfl)) (fun _ _ _ h=>h) (Or.inl ⟨by rfl,?_⟩) ?_ ?_
               rotate_left
               · intro w'
                 go_simp
                 with_reducible rfl
               rotate_left
               · simp only [Act.put,List.setIfInBounds_toArray,List.set_cons_zero,List.set_cons_succ,i64_w,i32_w]
                 rfl
               refine pure_ (i:=9) (N:=some 62) (v:=?_) (a':=?_) #[false,true,true,true,true,false,true,true,true,true,false,false,false,false,false,false,false,false] rfl rfl (any_of HT_.out (by kernel_rfl)) (fun _ _ _ h=>h) (Or.inl ⟨by rfl,?_⟩) ?_ ?_
               rotate_left
               · intro w'
                 go_simp
                 with_reducible rfl
               rotate_left
               · simp only [Act.put,List.setIfInBounds_toArray,List.set_cons_zero,List.set_cons_succ,i64_w,i32_w]
                 rfl
               refine take_ (i:=0) (N:=some 53) (v:=?_) (a':=?_) #[true,true,true,true,true,false,true,true,true,true,false,false,false,false,false,false,false,false] rfl rfl (take_ofW HT_.out HW_.out (by kernel_rfl)) (fun _ _ _ h=>h) (Or.inl ⟨by rfl,?_⟩) hHeld ?_ ?_
               rotate_left
               · rintro w' ⟨s0,s1,s2,s3,s4,s5⟩
                 go_simp
                 with_reducible rfl
               rotate_left
               · simp only [Act.put,List.setIfInBounds_toArray,List.set_cons_zero,List.set_cons_succ,i64_w,i32_w]
                 rfl
               refine take_ (i:=5) (N:=some 58) (v:=?_) (a':=?_) #[true,true,true,true,true,true,true,true,true,true,false,false,false,false,false,false,false,false] rfl rfl (take_ofW HT_.out HW_.out (by kernel_rfl)) (fun _ _ _ h=>h) (Or.inl ⟨by rfl,?_⟩) hHeld ?_ ?_
               rotate_left
               · rintro w' ⟨s0,s1,s2,s3,s4,s5⟩
                 go_simp
                 with_reducible rfl
               rotate_left
               · simp only [Act.put,List.setIfInBounds_toArray,List.set_cons_zero,List.set_cons_succ,i64_w,i32_w]
                 rfl
               refine take_ (i:=10) (N:=some 63) (v:=?_) (a':=?_) #[true,true,true,true,true,true,true,true,true,true,true,false,false,false,false,false,false,false] rfl rfl (take_ofW HT_.out HW_.out (by kernel_rfl)) (fun _ _ _ h=>h) (Or.inl ⟨by rfl,?_⟩) hHeld ?_ ?_
               rotate_left
               · rintro w' ⟨s0,s1,s2,s3,s4,s5⟩
                 go_simp
                 with_reducible rfl
               rotate_left
               · simp only [Act.put,List.setIfInBounds_toArray,List.set_cons_zero,List.set_cons_succ,i64_w,i32_w]
                 rfl
               refine join_ (σ:=Value × Value × Nat) 2 #[true,true,true,true,true,true,true,true,true,true,true,true,true,true,true,true,false,false] (fun s_=>[(64,.tuple #[.agg #[s_.1,s_.2.1],.int .i64 t284]),(10,.pointer (some ⟨s_.2.2,0,none⟩)),(52,.tuple #[.agg #[s_.1,s_.2.1],.int .i64 t284]),(65,.agg #[s_.1,s_.2.1]),(66,.int .i64 t284)]) (fun s_ w'=>(w'.cell? ⟨gb260,0,none⟩=some (.slice Ao43 x261000_3.length co43)∧w'.cell? ⟨gb260,1,none⟩=some (.slice Ao44 x261001_3.length co44)∧w'.cell? (ad276.add ((x9_3).toNat * 2))=some (.int .i64 ((rd_T45 t267 x9_3).f0))∧w'.cell? ⟨(ad276.add ((x9_3).toNat * 2)).block,(ad276.add ((x9_3).toNat * 2)).off + 1,none⟩=some (.slice A276_1 ((rd_T45 t267 x9_3).f1).length c276_1)∧w'.cell? (ad276.add ((x9_3).toNat * 2))=some (.int .i64 ((rd_T45 t267 x9_3).f0))∧w'.cell? ⟨(ad276.add ((x9_3).toNat * 2)).block,(ad276.add ((x9_3).toNat * 2)).off + 1,none⟩=some (.slice A276_1 ((rd_T45 t267 x9_3).f1).length c276_1))∧(Kd.V (Kd.int .u8) 5 w' w.heap.size (fun k_=>(w.heap.size ≤ k_)∧some k_ ≠ (s_.1:Value).ownBlock∧some k_ ≠ (s_.2.1:Value).ownBlock∧some k_ ≠ (.slice Ao43 x261000_3.length co43:Value).ownBlock∧some k_ ≠ (.slice Ao44 x261001_3.length co44:Value).ownBlock∧some k_ ≠ (.slice (some ad276) t267.length co42:Value).ownBlock∧k_ ≠ gb260∧k_ ≠ gb261∧k_ ≠ s_.2.2) (.slice A276_1 ((rd_T45 t267 x9_3).f1).length c276_1) ((rd_T45 t267 x9_3).f1))∧(Kd.V (Kd.int .u8) 5 w' w.heap.size (fun k_=>(w.heap.size ≤ k_)∧some k_ ≠ (s_.1:Value).ownBlock∧some k_ ≠ (s_.2.1:Value).ownBlock∧some k_ ≠ (.slice Ao43 x261000_3.length co43:Value).ownBlock∧some k_ ≠ (.slice Ao44 x261001_3.length co44:Value).ownBlock∧some k_ ≠ (.slice (some ad276) t267.length co42:Value).ownBlock∧k_ ≠ gb260∧k_ ≠ gb261∧k_ ≠ s_.2.2) (.slice A276_1 ((rd_T45 t267 x9_3).f1).length c276_1) ((rd_T45 t267 x9_3).f1))∧(Kd.R (Kd.int .u8) 5 w' w.heap.size (fun k_=>(w.heap.size ≤ k_)∧some k_ ≠ (.slice Ao43 x261000_3.length co43:Value).ownBlock) s_.1 t278)∧(Kd.N k45 45 w' w.heap.size (fun k_=>(w.heap.size ≤ k_)∧some k_ ≠ (s_.1:Value).ownBlock∧some k_ ≠ (.slice Ao43 x261000_3.length co43:Value).ownBlock∧some k_ ≠ (.slice Ao44 x261001_3.length co44:Value).ownBlock∧some k_ ≠ (.slice (some ad276) t267.length co42:Value).ownBlock∧k_ ≠ gb260∧k_ ≠ gb261∧k_ ≠ s_.2.2) s_.2.1 t281)∧(Kd.R (Kd.int .u8) 5 w' w.heap.size (fun k_=>(w.heap.size ≤ k_)∧some k_ ≠ (s_.1:Value).ownBlock) (.slice Ao43 x261000_3.length co43) x261000_3)∧(Kd.N k45 45 w' w.heap.size (fun k_=>(w.heap.size ≤ k_)∧some k_ ≠ (s_.1:Value).ownBlock∧some k_ ≠ (s_.2.1:Value).ownBlock∧some k_ ≠ (.slice Ao43 x261000_3.length co43:Value).ownBlock∧some k_ ≠ (.slice (some ad276) t267.length co42:Value).ownBlock∧k_ ≠ gb260∧k_ ≠ gb261∧k_ ≠ s_.2.2) (.slice Ao44 x261001_3.length co44) x261001_3)∧(Kd.N k45 45 w' w.heap.size (fun k_=>(w.heap.size ≤ k_)∧some k_ ≠ (s_.1:Value).ownBlock∧some k_ ≠ (s_.2.1:Value).ownBlock∧some k_ ≠ (.slice Ao43 x261000_3.length co43:Value).ownBlock∧some k_ ≠ (.slice Ao44 x261001_3.length co44:Value).ownBlock∧k_ ≠ gb260∧k_ ≠ gb261∧k_ ≠ s_.2.2) (.slice (some ad276) t267.length co42) t267)∧(w'.heap[gb260]? = some (.cells #[.slice Ao43 x261000_3.length co43,.slice Ao44 x261001_3.length co44] 25 (0,0)))∧(w'.heap[gb261]? = some (.cells #[.slice none 0 0,.slice none 0 0] 25 (0,0)))∧(w'.heap[s_.2.2]? = some (.cells #[.slice none 0 0,.slice none 0 0] 25 (0,0)))∧(w.heap.size ≤ s_.2.2)∧(w.heap.size ≤ s_.2.2)∧(gb260 ≠ s_.2.2)∧(s_.2.2 ≠ gb260)∧(gb261 ≠ s_.2.2)∧(s_.2.2 ≠ gb261)∧(Below w.heap.size w w')) ?_ ?_
               rotate_left
               · intro hCont
                 refine two_ (i:=11) (j:=15) (Ni:=some 64) (Nj:=some 10) #[true,true,true,true,true,true,true,true,true,true,true,true,false,false,false,false,false,false] #[true,true,true,true,true,true,true,true,true,true,true,false,false,false,false,true,false,false] rfl rfl rfl rfl (two_of HT_.out (by kernel_rfl)) (by decide) (by decide) (fun K hK => ?_) (fun K hK => ?_)
                 · skip
                   refine goes_ Try.func22 (by kernel_rfl) rfl #[.agg #[.slice Ao43 x261000_3.length co43,.slice Ao44 x261001_3.length co44],.int .i64 ((rd_T45 t267 x9_3).f0),.slice A276_1 ((rd_T45 t267 x9_3).f1).length c276_1] (by rfl) rfl rfl (by (try simp only [List.map_toArray,List.map_cons,List.map_nil]);first|done|rfl|(simp only [List.length_drop,List.length_take];rfl)) ?_
                   with_reducible refine (wageofficeref42_Write.calls k3 _ _ x261000_3 _ _ x261001_3 ((rd_T45 t267 x9_3).f0) _ _ ((rd_T45 t267 x9_3).f1) t278 t281 t284 _ ?side1 ?side2 ?side3 ?side4 ?side5 ?side6 A40.out).mono ?_
                   (case side1=>repeat (first|exact (Kd.R_reads' HO_261000.out).2.2|(with_reducible refine Kd.C_alloc ?_ _)|(with_reducible refine Kd.C_drewN ?_ _)|(with_reducible refine Kd.C_drew ?_)))
                   (case side2=>exact (Kd.R_reads' HO_261000.out).2.1)
                   (case side3=>repeat (first|exact (Kd.N_reads' HO_261001.out).2.2|(with_reducible refine Kd.C_alloc ?_ _)|(with_reducible refine Kd.C_drewN ?_ _)|(with_reducible refine Kd.C_drew ?_)))
                   (case side4=>exact (Kd.N_reads' HO_261001.out).2.1)
                   (case side5=>repeat (first|exact (by repeat (first|(with_reducible exact HR277_1.out)|(with_reducible refine Kd.C_alloc ?_ _)|(with_reducible refine Kd.C_drewN ?_ _)|(with_reducible refine Kd.C_drew ?_)|exact HR277_1.out))|(with_reducible refine Kd.C_alloc ?_ _)|(with_reducible refine Kd.C_drewN ?_ _)|(with_reducible refine Kd.C_drew ?_)))
                   (case side6=>exact HC277_1.out)
                   rintro e w46 ⟨v279,v282,rfl,ho0,ho1,hb⟩
                   have HS2_:=(hb.cell (World.block_lt_of_cell? _ _ (hHeld.2.2.1))).trans (hHeld.2.2.1)
                   have HS3_:=(hb.cell (World.block_lt_of_cell? _ _ (hHeld.2.2.2.1))).trans (hHeld.2.2.2.1)
                   have HS4_:=(hb.cell (World.block_lt_of_cell? _ _ (hHeld.2.2.2.2.1))).trans (hHeld.2.2.2.2.1)
                   have HS5_:=(hb.cell (World.block_lt_of_cell? _ _ (hHeld.2.2.2.2.2))).trans (hHeld.2.2.2.2.2)
                   refine ⟨_,rfl,?_⟩
                   have n0_:=Aside0.mk (Kd.N_mono (Kd.N_told (Kd.N_told (Kd.N_old (by (with_reducible repeat (first|apply Kd.N_alloc|apply Kd.N_drewN|apply Kd.N_drew));exact HO_8.out) hb) (Kd.R_base ho0)) (Kd.N_base (Kd.S_N ho1))) (fun _ h_=>h_.1))
                   have n1_:=Aside0.mk (Kd.R_elder' (by (with_reducible repeat (first|apply Kd.R_alloc|apply Kd.R_drewN|apply Kd.R_drew));exact HO_261000.out) (Kd.R_base ho0) hb)
                   have n2_:=Aside0.mk (Kd.N_mono (Kd.N_told (Kd.N_told (Kd.N_old (by (with_reducible repeat (first|apply Kd.N_alloc|apply Kd.N_drewN|apply Kd.N_drew));exact HO_261001.out) hb) (Kd.R_base ho0)) (Kd.N_base (Kd.S_N ho1))) (fun _ h_=>h_.1))
                   have n3_:=Aside0.mk (Kd.V_mono (Kd.V_told (Kd.V_told (Kd.V_old (by (with_reducible repeat (first|apply Kd.V_alloc|apply Kd.V_drewN|apply Kd.V_drew));exact HL276_1.out) hb) (Kd.R_base ho0)) (Kd.N_base (Kd.S_N ho1))) (fun _ h_=>h_.1))
                   have n4_:=Aside0.mk (Kd.V_mono (Kd.V_told (Kd.V_told (Kd.V_old (by (with_reducible repeat (first|apply Kd.V_alloc|apply Kd.V_drewN|apply Kd.V_drew));exact HL277_1.out) hb) (Kd.R_base ho0)) (Kd.N_base (Kd.S_N ho1))) (fun _ h_=>h_.1))
                   have n5_:=Aside0.mk (Kd.R_lower (Kd.R_new' (Kd.R_newM (M:=fun k_=>(w.heap.size ≤ k_)) ho0 (below_size (by repeat (first|(with_reducible first|exact HB.out|apply below_alloc|apply pw_below_drewN|apply below_drew1|refine below_set ?_ GE260.out|refine below_set ?_ GE261.out)|exact HB.out))) (fun k_ h_=>h_)) (Kd.R_lt (by (with_reducible repeat (first|apply Kd.R_alloc|apply Kd.R_drewN|apply Kd.R_drew));exact HO_261000.out))) (below_size (by repeat (first|(with_reducible first|exact HB.out|apply below_alloc|apply pw_below_drewN|apply below_drew1|refine below_set ?_ GE260.out|refine below_set ?_ GE261.out)|exact HB.out))))
                   have n6_:=Aside0.mk (Kd.N_lower (Kd.N_mono (ok':=fun k_=>(w.heap.size ≤ k_)∧some k_ ≠ (v279:Value).ownBlock∧some k_ ≠ (.slice (some ad276) t267.length co42:Value).ownBlock∧some k_ ≠ (.slice Ao43 x261000_3.length co43:Value).ownBlock∧some k_ ≠ (.slice Ao44 x261001_3.length co44:Value).ownBlock∧k_ ≠ gb260∧k_ ≠ gb261) (Kd.S_N (Kd.S_bound ho1)) (fun k_ hk_=>⟨(Nat.le_trans (below_size (by repeat (first|(with_reducible first|exact HB.out|apply below_alloc|apply pw_below_drewN|apply below_drew1|refine below_set ?_ GE260.out|refine below_set ?_ GE261.out)|exact HB.out))) hk_.2.1),hk_.1,(Kd.fresh' (Kd.N_lt (by (with_reducible repeat (first|apply Kd.N_alloc|apply Kd.N_drewN|apply Kd.N_drew));exact HO_8.out)) k_ hk_.2.1),(Kd.fresh' (Kd.R_lt (by (with_reducible repeat (first|apply Kd.R_alloc|apply Kd.R_drewN|apply Kd.R_drew));exact HO_261000.out)) k_ hk_.2.1),(Kd.fresh' (Kd.N_lt (by (with_reducible repeat (first|apply Kd.N_alloc|apply Kd.N_drewN|apply Kd.N_drew));exact HO_261001.out)) k_ hk_.2.1),(Kd.freshB (g:=gb260) (o:=.cells #[.slice Ao43 x261000_3.length co43,.slice Ao44 x261001_3.length co44] 25 (0,0)) (by (with_reducible repeat (first|refine blk_drewN ?_ _|refine blk_drew ?_|refine blk_alloc ?_ _));exact BK260.out) k_ hk_.2.1),(Kd.freshB (g:=gb261) (o:=.cells #[.slice none 0 0,.slice none 0 0] 25 (0,0)) (by (with_reducible repeat (first|refine blk_drewN ?_ _|refine blk_drew ?_|refine blk_alloc ?_ _));exact BK261.out) k_ hk_.2.1)⟩)) (below_size (by repeat (first|(with_reducible first|exact HB.out|apply below_alloc|apply pw_below_drewN|apply below_drew1|refine below_set ?_ GE260.out|refine below_set ?_ GE261.out)|exact HB.out))))
                   have n7_:=Aside0.mk (blk_below (g:=gb260) (o:=.cells #[.slice Ao43 x261000_3.length co43,.slice Ao44 x261001_3.length co44] 25 (0,0)) (by (with_reducible repeat (first|refine blk_drewN ?_ _|refine blk_drew ?_|refine blk_alloc ?_ _));exact BK260.out) hb)
                   have n8_:=Aside0.mk (blk_below (g:=gb261) (o:=.cells #[.slice none 0 0,.slice none 0 0] 25 (0,0)) (by (with_reducible repeat (first|refine blk_drewN ?_ _|refine blk_drew ?_|refine blk_alloc ?_ _));exact BK261.out) hb)
                   have n9_:=Aside0.mk (Kd.C_below (by repeat (first|(with_reducible exact HR276_1.out)|(with_reducible refine Kd.C_alloc ?_ _)|(with_reducible refine Kd.C_drewN ?_ _)|(with_reducible refine Kd.C_drew ?_)|exact HR276_1.out)) hb)
                   have n10_:=Aside0.mk (Kd.C_below (by repeat (first|(with_reducible exact HR277_1.out)|(with_reducible refine Kd.C_alloc ?_ _)|(with_reducible refine Kd.C_drewN ?_ _)|(with_reducible refine Kd.C_drew ?_)|exact HR277_1.out)) hb)
                   have n11_:=Aside0.mk (below_step (by repeat (first|(with_reducible first|exact HB.out|apply below_alloc|apply pw_below_drewN|apply below_drew1|refine below_set ?_ GE260.out|refine below_set ?_ GE261.out)|exact HB.out)) hb)
                   clear HO_8
                   clear HO_261000
                   clear HO_261001
                   clear HL276_1
                   clear HL277_1
                   clear BK260
                   clear BK261
                   clear HR276_1
                   clear HR277_1
                   clear HB
                   have HO_8:=n0_
                   have HO_261000:=n1_
                   have HO_261001:=n2_
                   have HL276_1:=n3_
                   have HL277_1:=n4_
                   have HO280:=n5_
                   have HO283:=n6_
                   have BK260:=n7_
                   have BK261:=n8_
                   have HR276_1:=n9_
                   have HR277_1:=n10_
                   have HB:=n11_
                   clear n0_ n1_ n2_ n3_ n4_ n5_ n6_ n7_ n8_ n9_ n10_ n11_
                   (try clear hb)
                   (try clear hb2)
                   (try clear hk)
                   (try clear hi)
                   (try clear ho0)
                   (try clear ho1)
                   refine hK.out _ _ ⟨(blk_cell BK260.out 0).trans rfl,(blk_cell BK260.out 1).trans rfl,HS2_,HS3_,HS4_,HS5_⟩ (fun hHeld => ?_)
                   clear hK K
                   refine norm_ (a':=?_) ?_ ?_
                   rotate_left
                   · show Act.put _ (some 64) _=_
                     simp only [Act.put,List.setIfInBounds_toArray,List.set_cons_zero,List.set_cons_succ,i64_w,i32_w]
                     rfl
                   refine pure_ (i:=12) (N:=some 52) (v:=?_) (a':=?_) #[true,true,true,true,true,true,true,true,true,true,true,true,true,false,false,false,false,false] rfl rfl (any_of HT_.out (by kernel_rfl)) (fun _ _ _ h=>h) (Or.inl ⟨by rfl,?_⟩) ?_ ?_
                   rotate_left
                   · intro w'
                     go_simp
                     with_reducible rfl
                   rotate_left
                   · simp only [Act.put,List.setIfInBounds_toArray,List.set_cons_zero,List.set_cons_succ,i64_w,i32_w]
                     rfl
                   refine pure_ (i:=13) (N:=some 65) (v:=?_) (a':=?_) #[true,true,true,true,true,true,true,true,true,true,true,true,true,true,false,false,false,false] rfl rfl (any_of HT_.out (by kernel_rfl)) (fun _ _ _ h=>h) (Or.inl ⟨by rfl,?_⟩) ?_ ?_
                   rotate_left
                   · intro w'
                     go_simp
                     with_reducible rfl
                   rotate_left
                   · simp only [Act.put,List.setIfInBounds_toArray,List.set_cons_zero,List.set_cons_succ,i64_w,i32_w]
                     rfl
                   refine pure_ (i:=14) (N:=some 66) (v:=?_) (a':=?_) #[true,true,true,true,true,true,true,true,true,true,true,true,true,true,true,false,false,false] rfl rfl (any_of HT_.out (by kernel_rfl)) (fun _ _ _ h=>h) (Or.inl ⟨by rfl,?_⟩) ?_ ?_
                   rotate_left
                   · intro w'
                     go_simp
                     with_reducible rfl
                   rotate_left
                   · simp only [Act.put,List.setIfInBounds_toArray,List.set_cons_zero,List.set_cons_succ,i64_w,i32_w]
                     rfl
                   refine one_ (i:=15) (N:=some 10) #[true,true,true,true,true,true,true,true,true,true,true,true,true,true,true,true,false,false] rfl rfl (one_of HT_.out (by kernel_rfl)) (by decide) (fun K hK => ?_)
                   refine box_step ?hg (N:=10) ?hd (cs:=#[.slice none 0 0,.slice none 0 0]) (t:=25) ?hr ?_;(case hd=>rfl);(case hg=>rfl);(case hr=>first|(go_simp;done)|(go_simp;rfl))
                   intro gb285 hg w47 hbox hb
                   have HS2_:=(hb.cell (World.block_lt_of_cell? _ _ (hHeld.2.2.1))).trans (hHeld.2.2.1)
                   have HS3_:=(hb.cell (World.block_lt_of_cell? _ _ (hHeld.2.2.2.1))).trans (hHeld.2.2.2.1)
                   have HS4_:=(hb.cell (World.block_lt_of_cell? _ _ (hHeld.2.2.2.2.1))).trans (hHeld.2.2.2.2.1)
                   have HS5_:=(hb.cell (World.block_lt_of_cell? _ _ (hHeld.2.2.2.2.2))).trans (hHeld.2.2.2.2.2)
                   have n0_:=Aside0.mk (Kd.N_below (Kd.N_elderB (by (with_reducible repeat (first|apply Kd.N_alloc|apply Kd.N_drewN|apply Kd.N_drew));exact HO_8.out) gb285 (Nat.le_of_eq hg.symm)) hb)
                   have n1_:=Aside0.mk (Kd.R_below (by (with_reducible repeat (first|apply Kd.R_alloc|apply Kd.R_drewN|apply Kd.R_drew));exact HO_261000.out) hb)
                   have n2_:=Aside0.mk (Kd.N_below (Kd.N_elderB (by (with_reducible repeat (first|apply Kd.N_alloc|apply Kd.N_drewN|apply Kd.N_drew));exact HO_261001.out) gb285 (Nat.le_of_eq hg.symm)) hb)
                   have n3_:=Aside0.mk (Kd.V_below (Kd.V_elderB (by (with_reducible repeat (first|apply Kd.V_alloc|apply Kd.V_drewN|apply Kd.V_drew));exact HL276_1.out) gb285 (Nat.le_of_eq hg.symm)) hb)
                   have n4_:=Aside0.mk (Kd.V_below (Kd.V_elderB (by (with_reducible repeat (first|apply Kd.V_alloc|apply Kd.V_drewN|apply Kd.V_drew));exact HL277_1.out) gb285 (Nat.le_of_eq hg.symm)) hb)
                   have n5_:=Aside0.mk (Kd.R_below (by (with_reducible repeat (first|apply Kd.R_alloc|apply Kd.R_drewN|apply Kd.R_drew));exact HO280.out) hb)
                   have n6_:=Aside0.mk (Kd.N_below (Kd.N_elderB (by (with_reducible repeat (first|apply Kd.N_alloc|apply Kd.N_drewN|apply Kd.N_drew));exact HO283.out) gb285 (Nat.le_of_eq hg.symm)) hb)
                   have n7_:=Aside0.mk (blk_below (g:=gb260) (o:=.cells #[.slice Ao43 x261000_3.length co43,.slice Ao44 x261001_3.length co44] 25 (0,0)) (by (with_reducible repeat (first|refine blk_drewN ?_ _|refine blk_drew ?_|refine blk_alloc ?_ _));exact BK260.out) hb)
                   have n8_:=Aside0.mk (blk_below (g:=gb261) (o:=.cells #[.slice none 0 0,.slice none 0 0] 25 (0,0)) (by (with_reducible repeat (first|refine blk_drewN ?_ _|refine blk_drew ?_|refine blk_alloc ?_ _));exact BK261.out) hb)
                   have n9_:=Aside0.mk (Kd.C_below (by repeat (first|(with_reducible exact HR276_1.out)|(with_reducible refine Kd.C_alloc ?_ _)|(with_reducible refine Kd.C_drewN ?_ _)|(with_reducible refine Kd.C_drew ?_)|exact HR276_1.out)) hb)
                   have n10_:=Aside0.mk (Kd.C_below (by repeat (first|(with_reducible exact HR277_1.out)|(with_reducible refine Kd.C_alloc ?_ _)|(with_reducible refine Kd.C_drewN ?_ _)|(with_reducible refine Kd.C_drew ?_)|exact HR277_1.out)) hb)
                   have n11_:=Aside0.mk (below_step (by repeat (first|(with_reducible first|exact HB.out|apply below_alloc|apply pw_below_drewN|apply below_drew1|refine below_set ?_ GE260.out|refine below_set ?_ GE261.out)|exact HB.out)) hb)
                   have n12_:=Aside0.mk (hbox)
                   have n13_:=Aside0.mk ((by rw [hg];exact (below_size (by repeat (first|(with_reducible first|exact HB.out|apply below_alloc|apply pw_below_drewN|apply below_drew1|refine below_set ?_ GE260.out|refine below_set ?_ GE261.out)|exact HB.out))):w.heap.size ≤ gb285))
                   have n14_:=Aside0.mk ((by rw [hg];exact (below_size (by repeat (first|(with_reducible first|exact HB.out|apply below_alloc|apply pw_below_drewN|apply below_drew1|refine below_set ?_ GE260.out|refine below_set ?_ GE261.out)|exact HB.out))):w.heap.size ≤ gb285))
                   have n15_:=Aside0.mk ((by rw [hg];exact Nat.ne_of_lt (blk_lt (g:=gb260) (o:=.cells #[.slice Ao43 x261000_3.length co43,.slice Ao44 x261001_3.length co44] 25 (0,0)) (by (with_reducible repeat (first|refine blk_drewN ?_ _|refine blk_drew ?_|refine blk_alloc ?_ _));exact BK260.out)):gb260 ≠ gb285))
                   have n16_:=Aside0.mk ((by rw [hg];exact Nat.ne_of_gt (blk_lt (g:=gb260) (o:=.cells #[.slice Ao43 x261000_3.length co43,.slice Ao44 x261001_3.length co44] 25 (0,0)) (by (with_reducible repeat (first|refine blk_drewN ?_ _|refine blk_drew ?_|refine blk_alloc ?_ _));exact BK260.out)):gb285 ≠ gb260))
                   have n17_:=Aside0.mk ((by rw [hg];exact Nat.ne_of_lt (blk_lt (g:=gb261) (o:=.cells #[.slice none 0 0,.slice none 0 0] 25 (0,0)) (by (with_reducible repeat (first|refine blk_drewN ?_ _|refine blk_drew ?_|refine blk_alloc ?_ _));exact BK261.out)):gb261 ≠ gb285))
                   have n18_:=Aside0.mk ((by rw [hg];exact Nat.ne_of_gt (blk_lt (g:=gb261) (o:=.cells #[.slice none 0 0,.slice none 0 0] 25 (0,0)) (by (with_reducible repeat (first|refine blk_drewN ?_ _|refine blk_drew ?_|refine blk_alloc ?_ _));exact BK261.out)):gb285 ≠ gb261))
                   clear HO_8
                   clear HO_261000
                   clear HO_261001
                   clear HL276_1
                   clear HL277_1
                   clear HO280
                   clear HO283
                   clear BK260
                   clear BK261
                   clear HR276_1
                   clear HR277_1
                   clear HB
                   have HO_8:=n0_
                   have HO_261000:=n1_
                   have HO_261001:=n2_
                   have HL276_1:=n3_
                   have HL277_1:=n4_
                   have HO280:=n5_
                   have HO283:=n6_
                   have BK260:=n7_
                   have BK261:=n8_
                   have HR276_1:=n9_
                   have HR277_1:=n10_
                   have HB:=n11_
                   have BK285:=n12_
                   have GW285:=n13_
                   have GE285:=n14_
                   have NB260_285:=n15_
                   have NB285_260:=n16_
                   have NB261_285:=n17_
                   have NB285_261:=n18_
                   clear n0_ n1_ n2_ n3_ n4_ n5_ n6_ n7_ n8_ n9_ n10_ n11_ n12_ n13_ n14_ n15_ n16_ n17_ n18_
                   clear hb hbox hg
                   refine hK.out _ _ ⟨(blk_cell BK260.out 0).trans rfl,(blk_cell BK260.out 1).trans rfl,HS2_,HS3_,HS4_,HS5_⟩ (fun hHeld => ?_)
                   clear hK K
                   refine norm_ (a':=?_) ?_ ?_
                   rotate_left
                   · show Act.put _ (some 10) _=_
                     simp only [Act.put,List.setIfInBounds_toArray,List.set_cons_zero,List.set_cons_succ,i64_w,i32_w]
                     rfl
                   exact norm_ (by simp only [putAll,Act.put,List.setIfInBounds_toArray,List.set_cons_zero,List.set_cons_succ]) (hCont (v279,v282,gb285) _ ⟨hHeld,(by (with_reducible repeat (first|apply Kd.V_alloc|apply Kd.V_drewN|apply Kd.V_drew));exact Kd.V_mono HL276_1.out (fun _ hk=>⟨hk.1.1.1.1.1,⟨hk.1.1.2,⟨hk.1.2,⟨hk.1.1.1.1.2.1,⟨hk.1.1.1.1.2.2.1,⟨hk.1.1.1.2,⟨hk.1.1.1.1.2.2.2.1,⟨hk.1.1.1.1.2.2.2.2,hk.2⟩⟩⟩⟩⟩⟩⟩⟩)),(by (with_reducible repeat (first|apply Kd.V_alloc|apply Kd.V_drewN|apply Kd.V_drew));exact Kd.V_mono HL277_1.out (fun _ hk=>⟨hk.1.1.1.1.1,⟨hk.1.1.2,⟨hk.1.2,⟨hk.1.1.1.1.2.1,⟨hk.1.1.1.1.2.2.1,⟨hk.1.1.1.2,⟨hk.1.1.1.1.2.2.2.1,⟨hk.1.1.1.1.2.2.2.2,hk.2⟩⟩⟩⟩⟩⟩⟩⟩)),(by (with_reducible repeat (first|apply Kd.R_alloc|apply Kd.R_drewN|apply Kd.R_drew));exact Kd.R_mono HO280.out (fun _ hk=>⟨hk.1.1,hk.2⟩)),(by (with_reducible repeat (first|apply Kd.N_alloc|apply Kd.N_drewN|apply Kd.N_drew));exact Kd.N_mono HO283.out (fun _ hk=>⟨hk.1.1,⟨hk.1.2.1,⟨hk.1.2.2.2.1,⟨hk.1.2.2.2.2.1,⟨hk.1.2.2.1,⟨hk.1.2.2.2.2.2.1,⟨hk.1.2.2.2.2.2.2,hk.2⟩⟩⟩⟩⟩⟩⟩)),(by (with_reducible repeat (first|apply Kd.R_alloc|apply Kd.R_drewN|apply Kd.R_drew));exact HO_261000.out),(by (with_reducible repeat (first|apply Kd.N_alloc|apply Kd.N_drewN|apply Kd.N_drew));exact Kd.N_mono HO_261001.out (fun _ hk=>⟨hk.1.1.1.1,⟨hk.1.1.2,⟨hk.1.2,⟨hk.1.1.1.2.2.1,⟨hk.1.1.1.2.1,⟨hk.1.1.1.2.2.2.1,⟨hk.1.1.1.2.2.2.2,hk.2⟩⟩⟩⟩⟩⟩⟩)),(by (with_reducible repeat (first|apply Kd.N_alloc|apply Kd.N_drewN|apply Kd.N_drew));exact Kd.N_mono HO_8.out (fun _ hk=>⟨hk.1.1.1.1,⟨hk.1.1.2,⟨hk.1.2,⟨hk.1.1.1.2.1,⟨hk.1.1.1.2.2.1,⟨hk.1.1.1.2.2.2.1,⟨hk.1.1.1.2.2.2.2,hk.2⟩⟩⟩⟩⟩⟩⟩)),(by (with_reducible repeat (first|refine blk_drewN ?_ _|refine blk_drew ?_|refine blk_alloc ?_ _));exact BK260.out),(by (with_reducible repeat (first|refine blk_drewN ?_ _|refine blk_drew ?_|refine blk_alloc ?_ _));exact BK261.out),(by (with_reducible repeat (first|refine blk_drewN ?_ _|refine blk_drew ?_|refine blk_alloc ?_ _));exact BK285.out),GW285.out,GE285.out,NB260_285.out,NB285_260.out,NB261_285.out,NB285_261.out,(by repeat (first|(with_reducible first|exact HB.out|apply below_alloc|apply pw_below_drewN|apply below_drew1|refine below_set ?_ GE260.out|refine below_set ?_ GE261.out|refine below_set ?_ GE285.out)|exact HB.out))⟩)
                 · skip
                   refine box_step ?hg (N:=10) ?hd (cs:=#[.slice none 0 0,.slice none 0 0]) (t:=25) ?hr ?_;(case hd=>rfl);(case hg=>rfl);(case hr=>first|(go_simp;done)|(go_simp;rfl))
                   intro gb285 hg w46 hbox hb
                   have HS2_:=(hb.cell (World.block_lt_of_cell? _ _ (hHeld.2.2.1))).trans (hHeld.2.2.1)
                   have HS3_:=(hb.cell (World.block_lt_of_cell? _ _ (hHeld.2.2.2.1))).trans (hHeld.2.2.2.1)
                   have HS4_:=(hb.cell (World.block_lt_of_cell? _ _ (hHeld.2.2.2.2.1))).trans (hHeld.2.2.2.2.1)
                   have HS5_:=(hb.cell (World.block_lt_of_cell? _ _ (hHeld.2.2.2.2.2))).trans (hHeld.2.2.2.2.2)
                   have n0_:=Aside0.mk (Kd.N_below (Kd.N_elderB (by (with_reducible repeat (first|apply Kd.N_alloc|apply Kd.N_drewN|apply Kd.N_drew));exact HO_8.out) gb285 (Nat.le_of_eq hg.symm)) hb)
                   have n1_:=Aside0.mk (Kd.R_below (by (with_reducible repeat (first|apply Kd.R_alloc|apply Kd.R_drewN|apply Kd.R_drew));exact HO_261000.out) hb)
                   have n2_:=Aside0.mk (Kd.N_below (Kd.N_elderB (by (with_reducible repeat (first|apply Kd.N_alloc|apply Kd.N_drewN|apply Kd.N_drew));exact HO_261001.out) gb285 (Nat.le_of_eq hg.symm)) hb)
                   have n3_:=Aside0.mk (Kd.V_below (Kd.V_elderB (by (with_reducible repeat (first|apply Kd.V_alloc|apply Kd.V_drewN|apply Kd.V_drew));exact HL276_1.out) gb285 (Nat.le_of_eq hg.symm)) hb)
                   have n4_:=Aside0.mk (Kd.V_below (Kd.V_elderB (by (with_reducible repeat (first|apply Kd.V_alloc|apply Kd.V_drewN|apply Kd.V_drew));exact HL277_1.out) gb285 (Nat.le_of_eq hg.symm)) hb)
                   have n5_:=Aside0.mk (blk_below (g:=gb260) (o:=.cells #[.slice Ao43 x261000_3.length co43,.slice Ao44 x261001_3.length co44] 25 (0,0)) (by (with_reducible repeat (first|refine blk_drewN ?_ _|refine blk_drew ?_|refine blk_alloc ?_ _));exact BK260.out) hb)
                   have n6_:=Aside0.mk (blk_below (g:=gb261) (o:=.cells #[.slice none 0 0,.slice none 0 0] 25 (0,0)) (by (with_reducible repeat (first|refine blk_drewN ?_ _|refine blk_drew ?_|refine blk_alloc ?_ _));exact BK261.out) hb)
                   have n7_:=Aside0.mk (Kd.C_below (by repeat (first|(with_reducible exact HR276_1.out)|(with_reducible refine Kd.C_alloc ?_ _)|(with_reducible refine Kd.C_drewN ?_ _)|(with_reducible refine Kd.C_drew ?_)|exact HR276_1.out)) hb)
                   have n8_:=Aside0.mk (Kd.C_below (by repeat (first|(with_reducible exact HR277_1.out)|(with_reducible refine Kd.C_alloc ?_ _)|(with_reducible refine Kd.C_drewN ?_ _)|(with_reducible refine Kd.C_drew ?_)|exact HR277_1.out)) hb)
                   have n9_:=Aside0.mk (below_step (by repeat (first|(with_reducible first|exact HB.out|apply below_alloc|apply pw_below_drewN|apply below_drew1|refine below_set ?_ GE260.out|refine below_set ?_ GE261.out)|exact HB.out)) hb)
                   have n10_:=Aside0.mk (hbox)
                   have n11_:=Aside0.mk ((by rw [hg];exact (below_size (by repeat (first|(with_reducible first|exact HB.out|apply below_alloc|apply pw_below_drewN|apply below_drew1|refine below_set ?_ GE260.out|refine below_set ?_ GE261.out)|exact HB.out))):w.heap.size ≤ gb285))
                   have n12_:=Aside0.mk ((by rw [hg];exact (below_size (by repeat (first|(with_reducible first|exact HB.out|apply below_alloc|apply pw_below_drewN|apply below_drew1|refine below_set ?_ GE260.out|refine below_set ?_ GE261.out)|exact HB.out))):w.heap.size ≤ gb285))
                   have n13_:=Aside0.mk ((by rw [hg];exact Nat.ne_of_lt (blk_lt (g:=gb260) (o:=.cells #[.slice Ao43 x261000_3.length co43,.slice Ao44 x261001_3.length co44] 25 (0,0)) (by (with_reducible repeat (first|refine blk_drewN ?_ _|refine blk_drew ?_|refine blk_alloc ?_ _));exact BK260.out)):gb260 ≠ gb285))
                   have n14_:=Aside0.mk ((by rw [hg];exact Nat.ne_of_gt (blk_lt (g:=gb260) (o:=.cells #[.slice Ao43 x261000_3.length co43,.slice Ao44 x261001_3.length co44] 25 (0,0)) (by (with_reducible repeat (first|refine blk_drewN ?_ _|refine blk_drew ?_|refine blk_alloc ?_ _));exact BK260.out)):gb285 ≠ gb260))
                   have n15_:=Aside0.mk ((by rw [hg];exact Nat.ne_of_lt (blk_lt (g:=gb261) (o:=.cells #[.slice none 0 0,.slice none 0 0] 25 (0,0)) (by (with_reducible repeat (first|refine blk_drewN ?_ _|refine blk_drew ?_|refine blk_alloc ?_ _));exact BK261.out)):gb261 ≠ gb285))
                   have n16_:=Aside0.mk ((by rw [hg];exact Nat.ne_of_gt (blk_lt (g:=gb261) (o:=.cells #[.slice none 0 0,.slice none 0 0] 25 (0,0)) (by (with_reducible repeat (first|refine blk_drewN ?_ _|refine blk_drew ?_|refine blk_alloc ?_ _));exact BK261.out)):gb285 ≠ gb261))
                   clear HO_8
                   clear HO_261000
                   clear HO_261001
                   clear HL276_1
                   clear HL277_1
                   clear BK260
                   clear BK261
                   clear HR276_1
                   clear HR277_1
                   clear HB
                   have HO_8:=n0_
                   have HO_261000:=n1_
                   have HO_261001:=n2_
                   have HL276_1:=n3_
                   have HL277_1:=n4_
                   have BK260:=n5_
                   have BK261:=n6_
                   have HR276_1:=n7_
                   have HR277_1:=n8_
                   have HB:=n9_
                   have BK285:=n10_
                   have GW285:=n11_
                   have GE285:=n12_
                   have NB260_285:=n13_
                   have NB285_260:=n14_
                   have NB261_285:=n15_
                   have NB285_261:=n16_
                   clear n0_ n1_ n2_ n3_ n4_ n5_ n6_ n7_ n8_ n9_ n10_ n11_ n12_ n13_ n14_ n15_ n16_
                   clear hb hbox hg
                   refine hK.out _ _ ⟨(blk_cell BK260.out 0).trans rfl,(blk_cell BK260.out 1).trans rfl,HS2_,HS3_,HS4_,HS5_⟩ (fun hHeld => ?_)
                   clear hK K
                   refine norm_ (a':=?_) ?_ ?_
                   rotate_left
                   · show Act.put _ (some 10) _=_
                     simp only [Act.put,List.setIfInBounds_toArray,List.set_cons_zero,List.set_cons_succ,i64_w,i32_w]
                     rfl
                   refine one_ (i:=11) (N:=some 64) #[true,true,true,true,true,true,true,true,true,true,true,true,false,false,false,true,false,false] rfl rfl (one_of HT_.out (by kernel_rfl)) (by decide) (fun K hK => ?_)
                   refine goes_ Try.func22 (by kernel_rfl) rfl #[.agg #[.slice Ao43 x261000_3.length co43,.slice Ao44 x261001_3.length co44],.int .i64 ((rd_T45 t267 x9_3).f0),.slice A276_1 ((rd_T45 t267 x9_3).f1).length c276_1] (by rfl) rfl rfl (by (try simp only [List.map_toArray,List.map_cons,List.map_nil]);first|done|rfl|(simp only [List.length_drop,List.length_take];rfl)) ?_
                   with_reducible refine (wageofficeref42_Write.calls k3 _ _ x261000_3 _ _ x261001_3 ((rd_T45 t267 x9_3).f0) _ _ ((rd_T45 t267 x9_3).f1) t278 t281 t284 _ ?side1 ?side2 ?side3 ?side4 ?side5 ?side6 A40.out).mono ?_
                   (case side1=>repeat (first|exact (Kd.R_reads' HO_261000.out).2.2|(with_reducible refine Kd.C_alloc ?_ _)|(with_reducible refine Kd.C_drewN ?_ _)|(with_reducible refine Kd.C_drew ?_)))
                   (case side2=>exact (Kd.R_reads' HO_261000.out).2.1)
                   (case side3=>repeat (first|exact (Kd.N_reads' HO_261001.out).2.2|(with_reducible refine Kd.C_alloc ?_ _)|(with_reducible refine Kd.C_drewN ?_ _)|(with_reducible refine Kd.C_drew ?_)))
                   (case side4=>exact (Kd.N_reads' HO_261001.out).2.1)
                   (case side5=>repeat (first|exact (by repeat (first|(with_reducible exact HR277_1.out)|(with_reducible refine Kd.C_alloc ?_ _)|(with_reducible refine Kd.C_drewN ?_ _)|(with_reducible refine Kd.C_drew ?_)|exact HR277_1.out))|(with_reducible refine Kd.C_alloc ?_ _)|(with_reducible refine Kd.C_drewN ?_ _)|(with_reducible refine Kd.C_drew ?_)))
                   (case side6=>exact HC277_1.out)
                   rintro e w47 ⟨v279,v282,rfl,ho0,ho1,hb⟩
                   have HS2_:=(hb.cell (World.block_lt_of_cell? _ _ (hHeld.2.2.1))).trans (hHeld.2.2.1)
                   have HS3_:=(hb.cell (World.block_lt_of_cell? _ _ (hHeld.2.2.2.1))).trans (hHeld.2.2.2.1)
                   have HS4_:=(hb.cell (World.block_lt_of_cell? _ _ (hHeld.2.2.2.2.1))).trans (hHeld.2.2.2.2.1)
                   have HS5_:=(hb.cell (World.block_lt_of_cell? _ _ (hHeld.2.2.2.2.2))).trans (hHeld.2.2.2.2.2)
                   refine ⟨_,rfl,?_⟩
                   have n0_:=Aside0.mk (Kd.N_mono (Kd.N_told (Kd.N_told (Kd.N_old (by (with_reducible repeat (first|apply Kd.N_alloc|apply Kd.N_drewN|apply Kd.N_drew));exact HO_8.out) hb) (Kd.R_base ho0)) (Kd.N_base (Kd.S_N ho1))) (fun _ h_=>h_.1))
                   have n1_:=Aside0.mk (Kd.R_elder' (by (with_reducible repeat (first|apply Kd.R_alloc|apply Kd.R_drewN|apply Kd.R_drew));exact HO_261000.out) (Kd.R_base ho0) hb)
                   have n2_:=Aside0.mk (Kd.N_mono (Kd.N_told (Kd.N_told (Kd.N_old (by (with_reducible repeat (first|apply Kd.N_alloc|apply Kd.N_drewN|apply Kd.N_drew));exact HO_261001.out) hb) (Kd.R_base ho0)) (Kd.N_base (Kd.S_N ho1))) (fun _ h_=>h_.1))
                   have n3_:=Aside0.mk (Kd.V_mono (Kd.V_told (Kd.V_told (Kd.V_old (by (with_reducible repeat (first|apply Kd.V_alloc|apply Kd.V_drewN|apply Kd.V_drew));exact HL276_1.out) hb) (Kd.R_base ho0)) (Kd.N_base (Kd.S_N ho1))) (fun _ h_=>h_.1))
                   have n4_:=Aside0.mk (Kd.V_mono (Kd.V_told (Kd.V_told (Kd.V_old (by (with_reducible repeat (first|apply Kd.V_alloc|apply Kd.V_drewN|apply Kd.V_drew));exact HL277_1.out) hb) (Kd.R_base ho0)) (Kd.N_base (Kd.S_N ho1))) (fun _ h_=>h_.1))
                   have n5_:=Aside0.mk (Kd.R_lower (Kd.R_new' (Kd.R_newM (M:=fun k_=>(w.heap.size ≤ k_)) ho0 (below_size (by repeat (first|(with_reducible first|exact HB.out|apply below_alloc|apply pw_below_drewN|apply below_drew1|refine below_set ?_ GE260.out|refine below_set ?_ GE261.out|refine below_set ?_ GE285.out)|exact HB.out))) (fun k_ h_=>h_)) (Kd.R_lt (by (with_reducible repeat (first|apply Kd.R_alloc|apply Kd.R_drewN|apply Kd.R_drew));exact HO_261000.out))) (below_size (by repeat (first|(with_reducible first|exact HB.out|apply below_alloc|apply pw_below_drewN|apply below_drew1|refine below_set ?_ GE260.out|refine below_set ?_ GE261.out|refine below_set ?_ GE285.out)|exact HB.out))))
                   have n6_:=Aside0.mk (Kd.N_lower (Kd.N_mono (ok':=fun k_=>(w.heap.size ≤ k_)∧some k_ ≠ (v279:Value).ownBlock∧some k_ ≠ (.slice (some ad276) t267.length co42:Value).ownBlock∧some k_ ≠ (.slice Ao43 x261000_3.length co43:Value).ownBlock∧some k_ ≠ (.slice Ao44 x261001_3.length co44:Value).ownBlock∧k_ ≠ gb260∧k_ ≠ gb261∧k_ ≠ gb285) (Kd.S_N (Kd.S_bound ho1)) (fun k_ hk_=>⟨(Nat.le_trans (below_size (by repeat (first|(with_reducible first|exact HB.out|apply below_alloc|apply pw_below_drewN|apply below_drew1|refine below_set ?_ GE260.out|refine below_set ?_ GE261.out|refine below_set ?_ GE285.out)|exact HB.out))) hk_.2.1),hk_.1,(Kd.fresh' (Kd.N_lt (by (with_reducible repeat (first|apply Kd.N_alloc|apply Kd.N_drewN|apply Kd.N_drew));exact HO_8.out)) k_ hk_.2.1),(Kd.fresh' (Kd.R_lt (by (with_reducible repeat (first|apply Kd.R_alloc|apply Kd.R_drewN|apply Kd.R_drew));exact HO_261000.out)) k_ hk_.2.1),(Kd.fresh' (Kd.N_lt (by (with_reducible repeat (first|apply Kd.N_alloc|apply Kd.N_drewN|apply Kd.N_drew));exact HO_261001.out)) k_ hk_.2.1),(Kd.freshB (g:=gb260) (o:=.cells #[.slice Ao43 x261000_3.length co43,.slice Ao44 x261001_3.length co44] 25 (0,0)) (by (with_reducible repeat (first|refine blk_drewN ?_ _|refine blk_drew ?_|refine blk_alloc ?_ _));exact BK260.out) k_ hk_.2.1),(Kd.freshB (g:=gb261) (o:=.cells #[.slice none 0 0,.slice none 0 0] 25 (0,0)) (by (with_reducible repeat (first|refine blk_drewN ?_ _|refine blk_drew ?_|refine blk_alloc ?_ _));exact BK261.out) k_ hk_.2.1),(Kd.freshB (g:=gb285) (o:=.cells #[.slice none 0 0,.slice none 0 0] 25 (0,0)) (by (with_reducible repeat (first|refine blk_drewN ?_ _|refine blk_drew ?_|refine blk_alloc ?_ _));exact BK285.out) k_ hk_.2.1)⟩)) (below_size (by repeat (first|(with_reducible first|exact HB.out|apply below_alloc|apply pw_below_drewN|apply below_drew1|refine below_set ?_ GE260.out|refine below_set ?_ GE261.out|refine below_set ?_ GE285.out)|exact HB.out))))
                   have n7_:=Aside0.mk (blk_below (g:=gb260) (o:=.cells #[.slice Ao43 x261000_3.length co43,.slice Ao44 x261001_3.length co44] 25 (0,0)) (by (with_reducible repeat (first|refine blk_drewN ?_ _|refine blk_drew ?_|refine blk_alloc ?_ _));exact BK260.out) hb)
                   have n8_:=Aside0.mk (blk_below (g:=gb261) (o:=.cells #[.slice none 0 0,.slice none 0 0] 25 (0,0)) (by (with_reducible repeat (first|refine blk_drewN ?_ _|refine blk_drew ?_|refine blk_alloc ?_ _));exact BK261.out) hb)
                   have n9_:=Aside0.mk (Kd.C_below (by repeat (first|(with_reducible exact HR276_1.out)|(with_reducible refine Kd.C_alloc ?_ _)|(with_reducible refine Kd.C_drewN ?_ _)|(with_reducible refine Kd.C_drew ?_)|exact HR276_1.out)) hb)
                   have n10_:=Aside0.mk (Kd.C_below (by repeat (first|(with_reducible exact HR277_1.out)|(with_reducible refine Kd.C_alloc ?_ _)|(with_reducible refine Kd.C_drewN ?_ _)|(with_reducible refine Kd.C_drew ?_)|exact HR277_1.out)) hb)
                   have n11_:=Aside0.mk (blk_below (g:=gb285) (o:=.cells #[.slice none 0 0,.slice none 0 0] 25 (0,0)) (by (with_reducible repeat (first|refine blk_drewN ?_ _|refine blk_drew ?_|refine blk_alloc ?_ _));exact BK285.out) hb)
                   have n12_:=Aside0.mk (below_step (by repeat (first|(with_reducible first|exact HB.out|apply below_alloc|apply pw_below_drewN|apply below_drew1|refine below_set ?_ GE260.out|refine below_set ?_ GE261.out|refine below_set ?_ GE285.out)|exact HB.out)) hb)
                   clear HO_8
                   clear HO_261000
                   clear HO_261001
                   clear HL276_1
                   clear HL277_1
                   clear BK260
                   clear BK261
                   clear HR276_1
                   clear HR277_1
                   clear BK285
                   clear HB
                   have HO_8:=n0_
                   have HO_261000:=n1_
                   have HO_261001:=n2_
                   have HL276_1:=n3_
                   have HL277_1:=n4_
                   have HO280:=n5_
                   have HO283:=n6_
                   have BK260:=n7_
                   have BK261:=n8_
                   have HR276_1:=n9_
                   have HR277_1:=n10_
                   have BK285:=n11_
                   have HB:=n12_
                   clear n0_ n1_ n2_ n3_ n4_ n5_ n6_ n7_ n8_ n9_ n10_ n11_ n12_
                   (try clear hb)
                   (try clear hb2)
                   (try clear hk)
                   (try clear hi)
                   (try clear ho0)
                   (try clear ho1)
                   refine hK.out _ _ ⟨(blk_cell BK260.out 0).trans rfl,(blk_cell BK260.out 1).trans rfl,HS2_,HS3_,HS4_,HS5_⟩ (fun hHeld => ?_)
                   clear hK K
                   refine norm_ (a':=?_) ?_ ?_
                   rotate_left
                   · show Act.put _ (some 64) _=_
                     simp only [Act.put,List.setIfInBounds_toArray,List.set_cons_zero,List.set_cons_succ,i64_w,i32_w]
                     rfl
                   refine pure_ (i:=12) (N:=some 52) (v:=?_) (a':=?_) #[true,true,true,true,true,true,true,true,true,true,true,true,true,false,false,true,false,false] rfl rfl (any_of HT_.out (by kernel_rfl)) (fun _ _ _ h=>h) (Or.inl ⟨by rfl,?_⟩) ?_ ?_
                   rotate_left
                   · intro w'
                     go_simp
                     with_reducible rfl
                   rotate_left
                   · simp only [Act.put,List.setIfInBounds_toArray,List.set_cons_zero,List.set_cons_succ,i64_w,i32_w]
                     rfl
                   refine pure_ (i:=13) (N:=some 65) (v:=?_) (a':=?_) #[true,true,true,true,true,true,true,true,true,true,true,true,true,true,false,true,false,false] rfl rfl (any_of HT_.out (by kernel_rfl)) (fun _ _ _ h=>h) (Or.inl ⟨by rfl,?_⟩) ?_ ?_
                   rotate_left
                   · intro w'
                     go_simp
                     with_reducible rfl
                   rotate_left
                   · simp only [Act.put,List.setIfInBounds_toArray,List.set_cons_zero,List.set_cons_succ,i64_w,i32_w]
                     rfl
                   refine pure_ (i:=14) (N:=some 66) (v:=?_) (a':=?_) #[true,true,true,true,true,true,true,true,true,true,true,true,true,true,true,true,false,false] rfl rfl (any_of HT_.out (by kernel_rfl)) (fun _ _ _ h=>h) (Or.inl ⟨by rfl,?_⟩) ?_ ?_
                   rotate_left
                   · intro w'
                     go_simp
                     with_reducible rfl
                   rotate_left
                   · simp only [Act.put,List.setIfInBounds_toArray,List.set_cons_zero,List.set_cons_succ,i64_w,i32_w]
                     rfl
                   exact norm_ (by simp only [putAll,Act.put,List.setIfInBounds_toArray,List.set_cons_zero,List.set_cons_succ]) (hCont (v279,v282,gb285) _ ⟨hHeld,(by (with_reducible repeat (first|apply Kd.V_alloc|apply Kd.V_drewN|apply Kd.V_drew));exact Kd.V_mono HL276_1.out (fun _ hk=>⟨hk.1.1.1.1.1,⟨hk.1.2,⟨hk.2,⟨hk.1.1.1.1.2.1,⟨hk.1.1.1.1.2.2.1,⟨hk.1.1.1.2,⟨hk.1.1.1.1.2.2.2.1,⟨hk.1.1.1.1.2.2.2.2,hk.1.1.2⟩⟩⟩⟩⟩⟩⟩⟩)),(by (with_reducible repeat (first|apply Kd.V_alloc|apply Kd.V_drewN|apply Kd.V_drew));exact Kd.V_mono HL277_1.out (fun _ hk=>⟨hk.1.1.1.1.1,⟨hk.1.2,⟨hk.2,⟨hk.1.1.1.1.2.1,⟨hk.1.1.1.1.2.2.1,⟨hk.1.1.1.2,⟨hk.1.1.1.1.2.2.2.1,⟨hk.1.1.1.1.2.2.2.2,hk.1.1.2⟩⟩⟩⟩⟩⟩⟩⟩)),(by (with_reducible repeat (first|apply Kd.R_alloc|apply Kd.R_drewN|apply Kd.R_drew));exact Kd.R_mono HO280.out (fun _ hk=>⟨hk.1.1,hk.2⟩)),(by (with_reducible repeat (first|apply Kd.N_alloc|apply Kd.N_drewN|apply Kd.N_drew));exact Kd.N_mono HO283.out (fun _ hk=>⟨hk.1,⟨hk.2.1,⟨hk.2.2.2.1,⟨hk.2.2.2.2.1,⟨hk.2.2.1,⟨hk.2.2.2.2.2.1,⟨hk.2.2.2.2.2.2.1,hk.2.2.2.2.2.2.2⟩⟩⟩⟩⟩⟩⟩)),(by (with_reducible repeat (first|apply Kd.R_alloc|apply Kd.R_drewN|apply Kd.R_drew));exact HO_261000.out),(by (with_reducible repeat (first|apply Kd.N_alloc|apply Kd.N_drewN|apply Kd.N_drew));exact Kd.N_mono HO_261001.out (fun _ hk=>⟨hk.1.1.1.1,⟨hk.1.2,⟨hk.2,⟨hk.1.1.1.2.2.1,⟨hk.1.1.1.2.1,⟨hk.1.1.1.2.2.2.1,⟨hk.1.1.1.2.2.2.2,hk.1.1.2⟩⟩⟩⟩⟩⟩⟩)),(by (with_reducible repeat (first|apply Kd.N_alloc|apply Kd.N_drewN|apply Kd.N_drew));exact Kd.N_mono HO_8.out (fun _ hk=>⟨hk.1.1.1.1,⟨hk.1.2,⟨hk.2,⟨hk.1.1.1.2.1,⟨hk.1.1.1.2.2.1,⟨hk.1.1.1.2.2.2.1,⟨hk.1.1.1.2.2.2.2,hk.1.1.2⟩⟩⟩⟩⟩⟩⟩)),(by (with_reducible repeat (first|refine blk_drewN ?_ _|refine blk_drew ?_|refine blk_alloc ?_ _));exact BK260.out),(by (with_reducible repeat (first|refine blk_drewN ?_ _|refine blk_drew ?_|refine blk_alloc ?_ _));exact BK261.out),(by (with_reducible repeat (first|refine blk_drewN ?_ _|refine blk_drew ?_|refine blk_alloc ?_ _));exact BK285.out),GW285.out,GE285.out,NB260_285.out,NB285_260.out,NB261_285.out,NB285_261.out,(by repeat (first|(with_reducible first|exact HB.out|apply below_alloc|apply pw_below_drewN|apply below_drew1|refine below_set ?_ GE260.out|refine below_set ?_ GE261.out|refine below_set ?_ GE285.out)|exact HB.out))⟩)
               rintro ⟨v279,v282,gb285⟩ w48 ⟨hS_,h0_,h1_,h2_,h3_,h4_,h5_,h6_,h7_,h8_,h9_,h10_,h11_,h12_,h13_,h14_,h15_,h16_⟩
               have n0_:Aside0 (Kd.V (Kd.int .u8) 5 w48 w.heap.size (fun k_=>(w.heap.size ≤ k_)∧some k_ ≠ (v279:Value).ownBlock∧some k_ ≠ (v282:Value).ownBlock∧some k_ ≠ (.slice Ao43 x261000_3.length co43:Value).ownBlock∧some k_ ≠ (.slice Ao44 x261001_3.length co44:Value).ownBlock∧some k_ ≠ (.slice (some ad276) t267.length co42:Value).ownBlock∧k_ ≠ gb260∧k_ ≠ gb261∧k_ ≠ gb285) (.slice A276_1 ((rd_T45 t267 x9_3).f1).length c276_1) ((rd_T45 t267 x9_3).f1)):=⟨h0_⟩
               have n1_:Aside0 (Kd.V (Kd.int .u8) 5 w48 w.heap.size (fun k_=>(w.heap.size ≤ k_)∧some k_ ≠ (v279:Value).ownBlock∧some k_ ≠ (v282:Value).ownBlock∧some k_ ≠ (.slice Ao43 x261000_3.length co43:Value).ownBlock∧some k_ ≠ (.slice Ao44 x261001_3.length co44:Value).ownBlock∧some k_ ≠ (.slice (some ad276) t267.length co42:Value).ownBlock∧k_ ≠ gb260∧k_ ≠ gb261∧k_ ≠ gb285) (.slice A276_1 ((rd_T45 t267 x9_3).f1).length c276_1) ((rd_T45 t267 x9_3).f1)):=⟨h1_⟩
               have n2_:Aside0 (Kd.R (Kd.int .u8) 5 w48 w.heap.size (fun k_=>(w.heap.size ≤ k_)∧some k_ ≠ (.slice Ao43 x261000_3.length co43:Value).ownBlock) v279 t278):=⟨h2_⟩
               have n3_:Aside0 (Kd.N k45 45 w48 w.heap.size (fun k_=>(w.heap.size ≤ k_)∧some k_ ≠ (v279:Value).ownBlock∧some k_ ≠ (.slice Ao43 x261000_3.length co43:Value).ownBlock∧some k_ ≠ (.slice Ao44 x261001_3.length co44:Value).ownBlock∧some k_ ≠ (.slice (some ad276) t267.length co42:Value).ownBlock∧k_ ≠ gb260∧k_ ≠ gb261∧k_ ≠ gb285) v282 t281):=⟨h3_⟩
               have n4_:Aside0 (Kd.R (Kd.int .u8) 5 w48 w.heap.size (fun k_=>(w.heap.size ≤ k_)∧some k_ ≠ (v279:Value).ownBlock) (.slice Ao43 x261000_3.length co43) x261000_3):=⟨h4_⟩
               have n5_:Aside0 (Kd.N k45 45 w48 w.heap.size (fun k_=>(w.heap.size ≤ k_)∧some k_ ≠ (v279:Value).ownBlock∧some k_ ≠ (v282:Value).ownBlock∧some k_ ≠ (.slice Ao43 x261000_3.length co43:Value).ownBlock∧some k_ ≠ (.slice (some ad276) t267.length co42:Value).ownBlock∧k_ ≠ gb260∧k_ ≠ gb261∧k_ ≠ gb285) (.slice Ao44 x261001_3.length co44) x261001_3):=⟨h5_⟩
               have n6_:Aside0 (Kd.N k45 45 w48 w.heap.size (fun k_=>(w.heap.size ≤ k_)∧some k_ ≠ (v279:Value).ownBlock∧some k_ ≠ (v282:Value).ownBlock∧some k_ ≠ (.slice Ao43 x261000_3.length co43:Value).ownBlock∧some k_ ≠ (.slice Ao44 x261001_3.length co44:Value).ownBlock∧k_ ≠ gb260∧k_ ≠ gb261∧k_ ≠ gb285) (.slice (some ad276) t267.length co42) t267):=⟨h6_⟩
               have n7_:Aside0 (w48.heap[gb260]? = some (.cells #[.slice Ao43 x261000_3.length co43,.slice Ao44 x261001_3.length co44] 25 (0,0))):=⟨h7_⟩
               have n8_:Aside0 (w48.heap[gb261]? = some (.cells #[.slice none 0 0,.slice none 0 0] 25 (0,0))):=⟨h8_⟩
               have n9_:Aside0 (w48.heap[gb285]? = some (.cells #[.slice none 0 0,.slice none 0 0] 25 (0,0))):=⟨h9_⟩
               have n10_:Aside0 (w.heap.size ≤ gb285):=⟨h10_⟩
               have n11_:Aside0 (w.heap.size ≤ gb285):=⟨h11_⟩
               have n12_:Aside0 (gb260 ≠ gb285):=⟨h12_⟩
               have n13_:Aside0 (gb285 ≠ gb260):=⟨h13_⟩
               have n14_:Aside0 (gb261 ≠ gb285):=⟨h14_⟩
               have n15_:Aside0 (gb285 ≠ gb261):=⟨h15_⟩
               have n16_:Aside0 (Below w.heap.size w w48):=⟨h16_⟩
               clear HO_8
               clear HO_261000
               clear HO_261001
               clear BK260
               clear BK261
               clear HB
               clear h0_ h1_ h2_ h3_ h4_ h5_ h6_ h7_ h8_ h9_ h10_ h11_ h12_ h13_ h14_ h15_ h16_
               have HL276_1:=n0_
               have HL277_1:=n1_
               have HO280:=n2_
               have HO283:=n3_
               have HO_261000:=n4_
               have HO_261001:=n5_
               have HO_8:=n6_
               have BK260:=n7_
               have BK261:=n8_
               have BK285:=n9_
               have GW285:=n10_
               have GE285:=n11_
               have NB260_285:=n12_
               have NB285_260:=n13_
               have NB261_285:=n14_
               have NB285_261:=n15_
               have HB:=n16_
               clear n0_ n1_ n2_ n3_ n4_ n5_ n6_ n7_ n8_ n9_ n10_ n11_ n12_ n13_ n14_ n15_ n16_
               have hHeld:w48.cell? ⟨gb260,0,none⟩=some (.slice Ao43 x261000_3.length co43)∧w48.cell? ⟨gb260,1,none⟩=some (.slice Ao44 x261001_3.length co44)∧w48.cell? (ad276.add ((x9_3).toNat * 2))=some (.int .i64 ((rd_T45 t267 x9_3).f0))∧w48.cell? ⟨(ad276.add ((x9_3).toNat * 2)).block,(ad276.add ((x9_3).toNat * 2)).off + 1,none⟩=some (.slice A276_1 ((rd_T45 t267 x9_3).f1).length c276_1)∧w48.cell? (ad276.add ((x9_3).toNat * 2))=some (.int .i64 ((rd_T45 t267 x9_3).f0))∧w48.cell? ⟨(ad276.add ((x9_3).toNat * 2)).block,(ad276.add ((x9_3).toNat * 2)).off + 1,none⟩=some (.slice A276_1 ((rd_T45 t267 x9_3).f1).length c276_1):=hS_
               obtain ⟨Ao49,co49,eo49⟩:=Kd.R_slice HO280.out
               (first|subst eo49|(injection eo49 with f1_ f2_ f3_;have f4_:=f1_.symm;have f5_:=f3_.symm;clear f1_ f2_ f3_;subst f4_;subst f5_))
               obtain ⟨Ao51,co51,eo51⟩:=Kd.N_slice HO283.out
               (first|subst eo51|(injection eo51 with f1_ f2_ f3_;have f4_:=f1_.symm;have f5_:=f3_.symm;clear f1_ f2_ f3_;subst f4_;subst f5_))
               refine norm_ (a':=?_) ?_ ?_
               rotate_left
               · simp only [putAll,Act.put,List.setIfInBounds_toArray,List.set_cons_zero,List.set_cons_succ]
                 rfl
               refine one_ (i:=16) (N:=none) #[true,true,true,true,true,true,true,true,true,true,true,true,true,true,true,true,true,false] rfl rfl (one_of HT_.out (by kernel_rfl)) (by decide) (fun K hK => ?_)
               have hs50:w48.cell? ⟨gb285,0,none⟩=some (.slice none 0 0):=(blk_cell BK285.out 0).trans rfl
               have hfs50:=blk_frozen BK285.out 0
               have hns50_0:=NB260_285.out
               have hns50_1:=NB261_285.out
               have hms50_0:=NB285_260.out
               have hms50_1:=NB285_261.out
               have hs52:w48.cell? ⟨gb285,1,none⟩=some (.slice none 0 0):=(blk_cell BK285.out 1).trans rfl
               have hfs52:=blk_frozen BK285.out 1
               have hns52_0:=NB260_285.out
               have hns52_1:=NB261_285.out
               have hms52_0:=NB285_260.out
               have hms52_1:=NB285_261.out
               refine skip_ (w1:=?_) (by rfl) rfl ?_ ?_
               rotate_left
               · go_simp
                 rfl
               refine hK.out _ _ ⟨((cell_far (p:=⟨gb285,_,none⟩) NB260_285.out _).trans (((cell_far (p:=⟨gb285,_,none⟩) NB260_285.out _).trans (hHeld.1)))),((cell_far (p:=⟨gb285,_,none⟩) NB260_285.out _).trans (((cell_far (p:=⟨gb285,_,none⟩) NB260_285.out _).trans (hHeld.2.1)))),((cell_far (p:=⟨gb285,_,none⟩) (by first|exact Kd.own_blk (Kd.N_away HO_8.out (fun _ hk=>hk.2.2.2.2.2.2.2))|(rw [add_block];exact Kd.own_blk (Kd.N_away HO_8.out (fun _ hk=>hk.2.2.2.2.2.2.2)))|(show (Addr.add _ _).block ≠ _;rw [add_block];exact Kd.own_blk (Kd.N_away HO_8.out (fun _ hk=>hk.2.2.2.2.2.2.2)))|(dsimp only;exact Kd.own_blk (Kd.N_away HO_8.out (fun _ hk=>hk.2.2.2.2.2.2.2)))) _).trans (((cell_far (p:=⟨gb285,_,none⟩) (by first|exact Kd.own_blk (Kd.N_away HO_8.out (fun _ hk=>hk.2.2.2.2.2.2.2))|(rw [add_block];exact Kd.own_blk (Kd.N_away HO_8.out (fun _ hk=>hk.2.2.2.2.2.2.2)))|(show (Addr.add _ _).block ≠ _;rw [add_block];exact Kd.own_blk (Kd.N_away HO_8.out (fun _ hk=>hk.2.2.2.2.2.2.2)))|(dsimp only;exact Kd.own_blk (Kd.N_away HO_8.out (fun _ hk=>hk.2.2.2.2.2.2.2)))) _).trans (hHeld.2.2.1)))),((cell_far (p:=⟨gb285,_,none⟩) (by first|exact Kd.own_blk (Kd.N_away HO_8.out (fun _ hk=>hk.2.2.2.2.2.2.2))|(rw [add_block];exact Kd.own_blk (Kd.N_away HO_8.out (fun _ hk=>hk.2.2.2.2.2.2.2)))|(show (Addr.add _ _).block ≠ _;rw [add_block];exact Kd.own_blk (Kd.N_away HO_8.out (fun _ hk=>hk.2.2.2.2.2.2.2)))|(dsimp only;exact Kd.own_blk (Kd.N_away HO_8.out (fun _ hk=>hk.2.2.2.2.2.2.2)))) _).trans (((cell_far (p:=⟨gb285,_,none⟩) (by first|exact Kd.own_blk (Kd.N_away HO_8.out (fun _ hk=>hk.2.2.2.2.2.2.2))|(rw [add_block];exact Kd.own_blk (Kd.N_away HO_8.out (fun _ hk=>hk.2.2.2.2.2.2.2)))|(show (Addr.add _ _).block ≠ _;rw [add_block];exact Kd.own_blk (Kd.N_away HO_8.out (fun _ hk=>hk.2.2.2.2.2.2.2)))|(dsimp only;exact Kd.own_blk (Kd.N_away HO_8.out (fun _ hk=>hk.2.2.2.2.2.2.2)))) _).trans (hHeld.2.2.2.1)))),((cell_far (p:=⟨gb285,_,none⟩) (by first|exact Kd.own_blk (Kd.N_away HO_8.out (fun _ hk=>hk.2.2.2.2.2.2.2))|(rw [add_block];exact Kd.own_blk (Kd.N_away HO_8.out (fun _ hk=>hk.2.2.2.2.2.2.2)))|(show (Addr.add _ _).block ≠ _;rw [add_block];exact Kd.own_blk (Kd.N_away HO_8.out (fun _ hk=>hk.2.2.2.2.2.2.2)))|(dsimp only;exact Kd.own_blk (Kd.N_away HO_8.out (fun _ hk=>hk.2.2.2.2.2.2.2)))) _).trans (((cell_far (p:=⟨gb285,_,none⟩) (by first|exact Kd.own_blk (Kd.N_away HO_8.out (fun _ hk=>hk.2.2.2.2.2.2.2))|(rw [add_block];exact Kd.own_blk (Kd.N_away HO_8.out (fun _ hk=>hk.2.2.2.2.2.2.2)))|(show (Addr.add _ _).block ≠ _;rw [add_block];exact Kd.own_blk (Kd.N_away HO_8.out (fun _ hk=>hk.2.2.2.2.2.2.2)))|(dsimp only;exact Kd.own_blk (Kd.N_away HO_8.out (fun _ hk=>hk.2.2.2.2.2.2.2)))) _).trans (hHeld.2.2.2.2.1)))),((cell_far (p:=⟨gb285,_,none⟩) (by first|exact Kd.own_blk (Kd.N_away HO_8.out (fun _ hk=>hk.2.2.2.2.2.2.2))|(rw [add_block];exact Kd.own_blk (Kd.N_away HO_8.out (fun _ hk=>hk.2.2.2.2.2.2.2)))|(show (Addr.add _ _).block ≠ _;rw [add_block];exact Kd.own_blk (Kd.N_away HO_8.out (fun _ hk=>hk.2.2.2.2.2.2.2)))|(dsimp only;exact Kd.own_blk (Kd.N_away HO_8.out (fun _ hk=>hk.2.2.2.2.2.2.2)))) _).trans (((cell_far (p:=⟨gb285,_,none⟩) (by first|exact Kd.own_blk (Kd.N_away HO_8.out (fun _ hk=>hk.2.2.2.2.2.2.2))|(rw [add_block];exact Kd.own_blk (Kd.N_away HO_8.out (fun _ hk=>hk.2.2.2.2.2.2.2)))|(show (Addr.add _ _).block ≠ _;rw [add_block];exact Kd.own_blk (Kd.N_away HO_8.out (fun _ hk=>hk.2.2.2.2.2.2.2)))|(dsimp only;exact Kd.own_blk (Kd.N_away HO_8.out (fun _ hk=>hk.2.2.2.2.2.2.2)))) _).trans (hHeld.2.2.2.2.2))))⟩ (fun hHeld => ?_)
               clear hK K
               refine pure_ (i:=17) (N:=some 11) (v:=?_) (a':=?_) #[true,true,true,true,true,true,true,true,true,true,true,true,true,true,true,true,true,true] rfl rfl (any_of HT_.out (by kernel_rfl)) (fun _ _ _ h=>h) (Or.inl ⟨by rfl,?_⟩) ?_ ?_
               rotate_left
               · intro w'
                 go_simp
                 with_reducible rfl
               rotate_left
               · simp only [Act.put,List.setIfInBounds_toArray,List.set_cons_zero,List.set_cons_succ,i64_w,i32_w]
                 rfl
               refine done_ (done_of HT_.out (by kernel_rfl)) ?_
               have hnb53:=NB285_260.out
               have hnc53:=NB260_285.out
               have hnb54:=NB285_261.out
               have hnc54:=NB261_285.out
               have hcz55_0:w48.cell? ⟨gb285,0,none⟩=some (.slice none 0 0):=(blk_cell BK285.out 0).trans rfl
               have hcz55_1:w48.cell? ⟨gb285,1,none⟩=some (.slice none 0 0):=(blk_cell BK285.out 1).trans rfl
               have hfz55_0:=blk_frozen BK285.out 0
               have hfz55_1:=blk_frozen BK285.out 1
               try go_wp2_with (first|((with_reducible refine gate_callee (f:=27) rfl ?_);refine goesL_ (some 68) rfl rfl Try.func27 (by kernel_rfl) rfl #[.agg #[.slice Ao49 t278.length co49,.slice Ao51 t281.length co51]] rfl (by (try simp only [List.map_toArray,List.map_cons,List.map_nil]);first|done|rfl|(simp only [List.length_drop,List.length_take];rfl)) ?_;(with_reducible refine (wageofficeref42_Sync.calls k3 _ _ t278 _ _ t281 t286 t289 _ ?side1 ?side2 ?side3 ?side4 A41.out).mono ?_);(case side1=>refine (Kd.R_reads' (e:=5) (base:=w.heap.size) (ok:=fun k_=>((w.heap.size ≤ k_)∧some k_ ≠ (.slice Ao43 x261000_3.length co43:Value).ownBlock)) (n:=t278.length) (c:=co49) ?_).2.2;exact (by (with_reducible repeat (first|apply Kd.R_alloc|apply Kd.R_drewN|apply Kd.R_drew));exact (Kd.R_mono (Kd.R_far (p:=⟨gb285,1,none⟩) (Kd.R_far (p:=⟨gb285,0,none⟩) (Kd.R_types HO280.out BK285.out (by decide)) (fun _ hk=>hk.2) (.slice Ao49 t278.length co49)) (fun _ hk=>hk.2) (.slice Ao51 t281.length co51)) (fun _ h_=>h_.1))));(case side2=>exact (Kd.R_reads' HO280.out).2.1);(case side3=>refine (Kd.N_reads' (e:=45) (base:=w.heap.size) (ok:=fun k_=>((w.heap.size ≤ k_)∧(some k_ ≠ (.slice Ao49 t278.length co49:Value).ownBlock∧(some k_ ≠ (.slice Ao43 x261000_3.length co43:Value).ownBlock∧(some k_ ≠ (.slice Ao44 x261001_3.length co44:Value).ownBlock∧(some k_ ≠ (.slice (some ad276) t267.length co42:Value).ownBlock∧(k_ ≠ gb260∧(k_ ≠ gb261∧k_ ≠ gb285)))))))) (n:=t281.length) (c:=co51) ?_).2.2;exact (by (with_reducible repeat (first|apply Kd.N_alloc|apply Kd.N_drewN|apply Kd.N_drew));exact (Kd.N_mono (Kd.N_far (p:=⟨gb285,1,none⟩) (Kd.N_far (p:=⟨gb285,0,none⟩) (Kd.N_mono HO283.out (fun k_ hk=>(⟨hk,hk.2.2.2.2.2.2.2⟩:_∧k_ ≠ gb285))) (fun _ hk=>hk.2) (.slice Ao49 t278.length co49)) (fun _ hk=>hk.2) (.slice Ao51 t281.length co51)) (fun _ h_=>h_.1))));(case side4=>exact (Kd.N_reads' HO283.out).2.1);rintro e w56 ⟨v287,v290,rfl,ho0,ho1,hb⟩;refine ⟨_,rfl,?_⟩;have n0_:=Aside0.mk (Kd.N_mono (Kd.N_told (Kd.N_told (Kd.N_old (by (with_reducible repeat (first|apply Kd.N_alloc|apply Kd.N_drewN|apply Kd.N_drew));exact (Kd.N_mono (Kd.N_far (p:=⟨gb285,1,none⟩) (Kd.N_far (p:=⟨gb285,0,none⟩) (Kd.N_mono HO_8.out (fun k_ hk=>(⟨hk,hk.2.2.2.2.2.2.2⟩:_∧k_ ≠ gb285))) (fun _ hk=>hk.2) (.slice Ao49 t278.length co49)) (fun _ hk=>hk.2) (.slice Ao51 t281.length co51)) (fun _ h_=>h_.1))) hb) (Kd.R_base ho0)) (Kd.N_base (Kd.S_N ho1))) (fun _ h_=>h_.1));have n1_:=Aside0.mk (Kd.R_elder' (by (with_reducible repeat (first|apply Kd.R_alloc|apply Kd.R_drewN|apply Kd.R_drew));exact (Kd.R_mono (Kd.R_far (p:=⟨gb285,1,none⟩) (Kd.R_far (p:=⟨gb285,0,none⟩) (Kd.R_types HO_261000.out BK285.out (by decide)) (fun _ hk=>hk.2) (.slice Ao49 t278.length co49)) (fun _ hk=>hk.2) (.slice Ao51 t281.length co51)) (fun _ h_=>h_.1))) (Kd.R_base ho0) hb);have n2_:=Aside0.mk (Kd.N_mono (Kd.N_told (Kd.N_told (Kd.N_old (by (with_reducible repeat (first|apply Kd.N_alloc|apply Kd.N_drewN|apply Kd.N_drew));exact (Kd.N_mono (Kd.N_far (p:=⟨gb285,1,none⟩) (Kd.N_far (p:=⟨gb285,0,none⟩) (Kd.N_mono HO_261001.out (fun k_ hk=>(⟨hk,hk.2.2.2.2.2.2.2⟩:_∧k_ ≠ gb285))) (fun _ hk=>hk.2) (.slice Ao49 t278.length co49)) (fun _ hk=>hk.2) (.slice Ao51 t281.length co51)) (fun _ h_=>h_.1))) hb) (Kd.R_base ho0)) (Kd.N_base (Kd.S_N ho1))) (fun _ h_=>h_.1));have n3_:=Aside0.mk (Kd.V_mono (Kd.V_told (Kd.V_told (Kd.V_old (by (with_reducible repeat (first|apply Kd.V_alloc|apply Kd.V_drewN|apply Kd.V_drew));exact (Kd.V_mono (Kd.V_far (p:=⟨gb285,1,none⟩) (Kd.V_far (p:=⟨gb285,0,none⟩) (Kd.V_mono HL276_1.out (fun k_ hk=>(⟨hk,hk.2.2.2.2.2.2.2.2⟩:_∧k_ ≠ gb285))) (fun _ hk=>hk.2) (.slice Ao49 t278.length co49)) (fun _ hk=>hk.2) (.slice Ao51 t281.length co51)) (fun _ h_=>h_.1))) hb) (Kd.R_base ho0)) (Kd.N_base (Kd.S_N ho1))) (fun _ h_=>h_.1));have n4_:=Aside0.mk (Kd.V_mono (Kd.V_told (Kd.V_told (Kd.V_old (by (with_reducible repeat (first|apply Kd.V_alloc|apply Kd.V_drewN|apply Kd.V_drew));exact (Kd.V_mono (Kd.V_far (p:=⟨gb285,1,none⟩) (Kd.V_far (p:=⟨gb285,0,none⟩) (Kd.V_mono HL277_1.out (fun k_ hk=>(⟨hk,hk.2.2.2.2.2.2.2.2⟩:_∧k_ ≠ gb285))) (fun _ hk=>hk.2) (.slice Ao49 t278.length co49)) (fun _ hk=>hk.2) (.slice Ao51 t281.length co51)) (fun _ h_=>h_.1))) hb) (Kd.R_base ho0)) (Kd.N_base (Kd.S_N ho1))) (fun _ h_=>h_.1));have n5_:=Aside0.mk (Kd.R_elder' (by (with_reducible repeat (first|apply Kd.R_alloc|apply Kd.R_drewN|apply Kd.R_drew));exact (Kd.R_mono (Kd.R_far (p:=⟨gb285,1,none⟩) (Kd.R_far (p:=⟨gb285,0,none⟩) (Kd.R_types HO280.out BK285.out (by decide)) (fun _ hk=>hk.2) (.slice Ao49 t278.length co49)) (fun _ hk=>hk.2) (.slice Ao51 t281.length co51)) (fun _ h_=>h_.1))) (Kd.R_base ho0) hb);have n6_:=Aside0.mk (Kd.N_mono (Kd.N_told (Kd.N_told (Kd.N_old (by (with_reducible repeat (first|apply Kd.N_alloc|apply Kd.N_drewN|apply Kd.N_drew));exact (Kd.N_mono (Kd.N_far (p:=⟨gb285,1,none⟩) (Kd.N_far (p:=⟨gb285,0,none⟩) (Kd.N_mono HO283.out (fun k_ hk=>(⟨hk,hk.2.2.2.2.2.2.2⟩:_∧k_ ≠ gb285))) (fun _ hk=>hk.2) (.slice Ao49 t278.length co49)) (fun _ hk=>hk.2) (.slice Ao51 t281.length co51)) (fun _ h_=>h_.1))) hb) (Kd.R_base ho0)) (Kd.N_base (Kd.S_N ho1))) (fun _ h_=>h_.1));have n7_:=Aside0.mk (Kd.R_lower (Kd.R_new' (Kd.R_new' (Kd.R_newM (M:=fun k_=>(w.heap.size ≤ k_)) ho0 (below_size (by repeat (first|(with_reducible first|exact HB.out|apply below_alloc|apply pw_below_drewN|apply below_drew1|refine below_set ?_ GE260.out|refine below_set ?_ GE261.out|refine below_set ?_ GE285.out)|exact HB.out))) (fun k_ h_=>h_)) (Kd.R_lt (by (with_reducible repeat (first|apply Kd.R_alloc|apply Kd.R_drewN|apply Kd.R_drew));exact (Kd.R_mono (Kd.R_far (p:=⟨gb285,1,none⟩) (Kd.R_far (p:=⟨gb285,0,none⟩) (Kd.R_types HO_261000.out BK285.out (by decide)) (fun _ hk=>hk.2) (.slice Ao49 t278.length co49)) (fun _ hk=>hk.2) (.slice Ao51 t281.length co51)) (fun _ h_=>h_.1))))) (Kd.R_lt (by (with_reducible repeat (first|apply Kd.R_alloc|apply Kd.R_drewN|apply Kd.R_drew));exact (Kd.R_mono (Kd.R_far (p:=⟨gb285,1,none⟩) (Kd.R_far (p:=⟨gb285,0,none⟩) (Kd.R_types HO280.out BK285.out (by decide)) (fun _ hk=>hk.2) (.slice Ao49 t278.length co49)) (fun _ hk=>hk.2) (.slice Ao51 t281.length co51)) (fun _ h_=>h_.1))))) (below_size (by repeat (first|(with_reducible first|exact HB.out|apply below_alloc|apply pw_below_drewN|apply below_drew1|refine below_set ?_ GE260.out|refine below_set ?_ GE261.out|refine below_set ?_ GE285.out)|exact HB.out))));have n8_:=Aside0.mk (Kd.N_lower (Kd.N_mono (ok':=fun k_=>(w.heap.size ≤ k_)∧some k_ ≠ (v287:Value).ownBlock∧some k_ ≠ (.slice (some ad276) t267.length co42:Value).ownBlock∧some k_ ≠ (.slice Ao43 x261000_3.length co43:Value).ownBlock∧some k_ ≠ (.slice Ao44 x261001_3.length co44:Value).ownBlock∧some k_ ≠ (.slice Ao49 t278.length co49:Value).ownBlock∧some k_ ≠ (.slice Ao51 t281.length co51:Value).ownBlock∧k_ ≠ gb260∧k_ ≠ gb261∧k_ ≠ gb285) (Kd.S_N (Kd.S_bound ho1)) (fun k_ hk_=>⟨(Nat.le_trans (below_size (by repeat (first|(with_reducible first|exact HB.out|apply below_alloc|apply pw_below_drewN|apply below_drew1|refine below_set ?_ GE260.out|refine below_set ?_ GE261.out|refine below_set ?_ GE285.out)|exact HB.out))) hk_.2.1),hk_.1,(Kd.fresh' (Kd.N_lt (by (with_reducible repeat (first|apply Kd.N_alloc|apply Kd.N_drewN|apply Kd.N_drew));exact (Kd.N_mono (Kd.N_far (p:=⟨gb285,1,none⟩) (Kd.N_far (p:=⟨gb285,0,none⟩) (Kd.N_mono HO_8.out (fun k_ hk=>(⟨hk,hk.2.2.2.2.2.2.2⟩:_∧k_ ≠ gb285))) (fun _ hk=>hk.2) (.slice Ao49 t278.length co49)) (fun _ hk=>hk.2) (.slice Ao51 t281.length co51)) (fun _ h_=>h_.1)))) k_ hk_.2.1),(Kd.fresh' (Kd.R_lt (by (with_reducible repeat (first|apply Kd.R_alloc|apply Kd.R_drewN|apply Kd.R_drew));exact (Kd.R_mono (Kd.R_far (p:=⟨gb285,1,none⟩) (Kd.R_far (p:=⟨gb285,0,none⟩) (Kd.R_types HO_261000.out BK285.out (by decide)) (fun _ hk=>hk.2) (.slice Ao49 t278.length co49)) (fun _ hk=>hk.2) (.slice Ao51 t281.length co51)) (fun _ h_=>h_.1)))) k_ hk_.2.1),(Kd.fresh' (Kd.N_lt (by (with_reducible repeat (first|apply Kd.N_alloc|apply Kd.N_drewN|apply Kd.N_drew));exact (Kd.N_mono (Kd.N_far (p:=⟨gb285,1,none⟩) (Kd.N_far (p:=⟨gb285,0,none⟩) (Kd.N_mono HO_261001.out (fun k_ hk=>(⟨hk,hk.2.2.2.2.2.2.2⟩:_∧k_ ≠ gb285))) (fun _ hk=>hk.2) (.slice Ao49 t278.length co49)) (fun _ hk=>hk.2) (.slice Ao51 t281.length co51)) (fun _ h_=>h_.1)))) k_ hk_.2.1),(Kd.fresh' (Kd.R_lt (by (with_reducible repeat (first|apply Kd.R_alloc|apply Kd.R_drewN|apply Kd.R_drew));exact (Kd.R_mono (Kd.R_far (p:=⟨gb285,1,none⟩) (Kd.R_far (p:=⟨gb285,0,none⟩) (Kd.R_types HO280.out BK285.out (by decide)) (fun _ hk=>hk.2) (.slice Ao49 t278.length co49)) (fun _ hk=>hk.2) (.slice Ao51 t281.length co51)) (fun _ h_=>h_.1)))) k_ hk_.2.1),(Kd.fresh' (Kd.N_lt (by (with_reducible repeat (first|apply Kd.N_alloc|apply Kd.N_drewN|apply Kd.N_drew));exact (Kd.N_mono (Kd.N_far (p:=⟨gb285,1,none⟩) (Kd.N_far (p:=⟨gb285,0,none⟩) (Kd.N_mono HO283.out (fun k_ hk=>(⟨hk,hk.2.2.2.2.2.2.2⟩:_∧k_ ≠ gb285))) (fun _ hk=>hk.2) (.slice Ao49 t278.length co49)) (fun _ hk=>hk.2) (.slice Ao51 t281.length co51)) (fun _ h_=>h_.1)))) k_ hk_.2.1),(Kd.freshB (g:=gb260) (o:=.cells #[.slice Ao43 x261000_3.length co43,.slice Ao44 x261001_3.length co44] 25 (0,0)) (by (with_reducible repeat (first|refine blk_drewN ?_ _|refine blk_drew ?_|refine blk_alloc ?_ _));refine blk_far ?_ NB260_285.out _;(with_reducible repeat (first|refine blk_drewN ?_ _|refine blk_drew ?_|refine blk_alloc ?_ _));refine blk_far ?_ NB260_285.out _;(with_reducible repeat (first|refine blk_drewN ?_ _|refine blk_drew ?_|refine blk_alloc ?_ _));exact BK260.out) k_ hk_.2.1),(Kd.freshB (g:=gb261) (o:=.cells #[.slice none 0 0,.slice none 0 0] 25 (0,0)) (by (with_reducible repeat (first|refine blk_drewN ?_ _|refine blk_drew ?_|refine blk_alloc ?_ _));refine blk_far ?_ NB261_285.out _;(with_reducible repeat (first|refine blk_drewN ?_ _|refine blk_drew ?_|refine blk_alloc ?_ _));refine blk_far ?_ NB261_285.out _;(with_reducible repeat (first|refine blk_drewN ?_ _|refine blk_drew ?_|refine blk_alloc ?_ _));exact BK261.out) k_ hk_.2.1),(Kd.freshB (g:=gb285) (o:=.cells #[.slice Ao49 t278.length co49,.slice Ao51 t281.length co51] 25 (0,0)) (by (with_reducible repeat (first|refine blk_drewN ?_ _|refine blk_drew ?_|refine blk_alloc ?_ _));refine blk_put (cs:=#[.slice Ao49 t278.length co49,.slice none 0 0]) ?_ 1 _ rfl;(with_reducible repeat (first|refine blk_drewN ?_ _|refine blk_drew ?_|refine blk_alloc ?_ _));refine blk_put (cs:=#[.slice none 0 0,.slice none 0 0]) ?_ 0 _ rfl;(with_reducible repeat (first|refine blk_drewN ?_ _|refine blk_drew ?_|refine blk_alloc ?_ _));exact BK285.out) k_ hk_.2.1)⟩)) (below_size (by repeat (first|(with_reducible first|exact HB.out|apply below_alloc|apply pw_below_drewN|apply below_drew1|refine below_set ?_ GE260.out|refine below_set ?_ GE261.out|refine below_set ?_ GE285.out)|exact HB.out))));have n9_:=Aside0.mk (blk_below (g:=gb260) (o:=.cells #[.slice Ao43 x261000_3.length co43,.slice Ao44 x261001_3.length co44] 25 (0,0)) (by (with_reducible repeat (first|refine blk_drewN ?_ _|refine blk_drew ?_|refine blk_alloc ?_ _));refine blk_far ?_ NB260_285.out _;(with_reducible repeat (first|refine blk_drewN ?_ _|refine blk_drew ?_|refine blk_alloc ?_ _));refine blk_far ?_ NB260_285.out _;(with_reducible repeat (first|refine blk_drewN ?_ _|refine blk_drew ?_|refine blk_alloc ?_ _));exact BK260.out) hb);have n10_:=Aside0.mk (blk_below (g:=gb261) (o:=.cells #[.slice none 0 0,.slice none 0 0] 25 (0,0)) (by (with_reducible repeat (first|refine blk_drewN ?_ _|refine blk_drew ?_|refine blk_alloc ?_ _));refine blk_far ?_ NB261_285.out _;(with_reducible repeat (first|refine blk_drewN ?_ _|refine blk_drew ?_|refine blk_alloc ?_ _));refine blk_far ?_ NB261_285.out _;(with_reducible repeat (first|refine blk_drewN ?_ _|refine blk_drew ?_|refine blk_alloc ?_ _));exact BK261.out) hb);have n11_:=Aside0.mk (blk_below (g:=gb285) (o:=.cells #[.slice Ao49 t278.length co49,.slice Ao51 t281.length co51] 25 (0,0)) (by (with_reducible repeat (first|refine blk_drewN ?_ _|refine blk_drew ?_|refine blk_alloc ?_ _));refine blk_put (cs:=#[.slice Ao49 t278.length co49,.slice none 0 0]) ?_ 1 _ rfl;(with_reducible repeat (first|refine blk_drewN ?_ _|refine blk_drew ?_|refine blk_alloc ?_ _));refine blk_put (cs:=#[.slice none 0 0,.slice none 0 0]) ?_ 0 _ rfl;(with_reducible repeat (first|refine blk_drewN ?_ _|refine blk_drew ?_|refine blk_alloc ?_ _));exact BK285.out) hb);have n12_:=Aside0.mk (below_step (by repeat (first|(with_reducible first|exact HB.out|apply below_alloc|apply pw_below_drewN|apply below_drew1|refine below_set ?_ GE260.out|refine below_set ?_ GE261.out|refine below_set ?_ GE285.out)|exact HB.out)) hb);clear HO_8;clear HO_261000;clear HO_261001;clear HL276_1;clear HL277_1;clear HO280;clear HO283;clear BK260;clear BK261;clear BK285;clear HB;have HO_8:=n0_;have HO_261000:=n1_;have HO_261001:=n2_;have HL276_1:=n3_;have HL277_1:=n4_;have HO280:=n5_;have HO283:=n6_;have HO288:=n7_;have HO291:=n8_;have BK260:=n9_;have BK261:=n10_;have BK285:=n11_;have HB:=n12_;clear n0_ n1_ n2_ n3_ n4_ n5_ n6_ n7_ n8_ n9_ n10_ n11_ n12_;(try clear hb);(try clear hb2);(try clear hk);(try clear hi);(try clear ho0);(try clear ho1);obtain ⟨Ao57,co57,eo57⟩:=Kd.R_slice HO288.out;subst eo57;have hnb58:=NB260_261.out;have hnc58:=NB261_260.out;have hcz59_0:w56.cell? ⟨gb260,0,none⟩=some (.slice Ao43 x261000_3.length co43):=(blk_cell BK260.out 0).trans rfl;have hcz59_1:w56.cell? ⟨gb260,1,none⟩=some (.slice Ao44 x261001_3.length co44):=(blk_cell BK260.out 1).trans rfl;have hfz59_0:=blk_frozen BK260.out 0;have hfz59_1:=blk_frozen BK260.out 1;obtain ⟨Ao60,co60,eo60⟩:=Kd.N_slice HO291.out;subst eo60))
               go_roundg k3
               case measure=>have:=HJ2.out;have:=HJ17.out;have:=HK3.out;omega
               case rel=>exact ⟨(wrap64 (x9_3 + 1)),(t286),(t289),(.slice Ao57 t286.length co57),(.slice Ao60 t289.length co60),(by first|rfl|(simp;done)|(simp [*];done)),H',⟨by have:=HJ2.out;have:=HJ17.out;have:=HK3.out;omega⟩,⟨by (with_reducible repeat (first|apply Kd.N_alloc|apply Kd.N_drewN|apply Kd.N_drew));exact Kd.N_mono (Kd.N_far (p:=⟨gb260,1,none⟩) (Kd.N_far (p:=⟨gb260,0,none⟩) (Kd.N_mono HO_8.out (fun k_ hk=>(⟨hk,hk.1.1.2.2.2.2.2.1⟩:_∧k_ ≠ gb260))) (fun _ hk=>hk.2) (.slice Ao57 t286.length co57)) (fun _ hk=>hk.2) (.slice Ao60 t289.length co60)) (fun _ hk=>⟨hk.1.1.1.1,⟨hk.1.1.2,⟨hk.1.2,⟨hk.1.1.1.2.2.2.2.2.1,hk.1.1.1.2.2.2.2.2.2.1⟩⟩⟩⟩)⟩,⟨by (with_reducible repeat (first|apply Kd.R_alloc|apply Kd.R_drewN|apply Kd.R_drew));exact Kd.R_mono (Kd.R_far (p:=⟨gb260,1,none⟩) (Kd.R_far (p:=⟨gb260,0,none⟩) (Kd.R_types HO288.out BK260.out (by decide)) (fun _ hk=>hk.2) (.slice Ao57 t286.length co57)) (fun _ hk=>hk.2) (.slice Ao60 t289.length co60)) (fun _ hk=>hk.1.1.1.1)⟩,⟨by (with_reducible repeat (first|apply Kd.N_alloc|apply Kd.N_drewN|apply Kd.N_drew));exact Kd.N_mono (Kd.N_far (p:=⟨gb260,1,none⟩) (Kd.N_far (p:=⟨gb260,0,none⟩) (Kd.N_mono HO291.out (fun k_ hk=>(⟨hk,hk.2.2.2.2.2.2.2.1⟩:_∧k_ ≠ gb260))) (fun _ hk=>hk.2) (.slice Ao57 t286.length co57)) (fun _ hk=>hk.2) (.slice Ao60 t289.length co60)) (fun _ hk=>⟨hk.1.1,⟨hk.1.2.2.1,⟨hk.1.2.1,⟨hk.1.2.2.2.2.2.2.2.1,hk.1.2.2.2.2.2.2.2.2.1⟩⟩⟩⟩)⟩,⟨by (with_reducible repeat (first|refine blk_drewN ?_ _|refine blk_drew ?_|refine blk_alloc ?_ _));refine blk_put (cs:=#[.slice Ao57 t286.length co57,.slice Ao44 x261001_3.length co44]) ?_ 1 _ rfl;(with_reducible repeat (first|refine blk_drewN ?_ _|refine blk_drew ?_|refine blk_alloc ?_ _));refine blk_put (cs:=#[.slice Ao43 x261000_3.length co43,.slice Ao44 x261001_3.length co44]) ?_ 0 _ rfl;(with_reducible repeat (first|refine blk_drewN ?_ _|refine blk_drew ?_|refine blk_alloc ?_ _));exact BK260.out⟩,⟨by (with_reducible repeat (first|refine blk_drewN ?_ _|refine blk_drew ?_|refine blk_alloc ?_ _));refine blk_far ?_ NB261_260.out _;(with_reducible repeat (first|refine blk_drewN ?_ _|refine blk_drew ?_|refine blk_alloc ?_ _));refine blk_far ?_ NB261_260.out _;(with_reducible repeat (first|refine blk_drewN ?_ _|refine blk_drew ?_|refine blk_alloc ?_ _));exact BK261.out⟩,⟨by repeat (first|(with_reducible first|exact HB.out|apply below_alloc|apply pw_below_drewN|apply below_drew1|refine below_set ?_ GE260.out|refine below_set ?_ GE261.out|refine below_set ?_ GE285.out)|exact HB.out)⟩⟩
             · rw [if_neg c39] at H
               exact absurd H (by simp)
           · rw [if_neg c38] at H
             have c38b0:decide (x9_3 < (t267.length:Int))=false:=decide_eq_false c38
             clear c38
             simp only [Option.some.injEq,Prod.mk.injEq] at H
             obtain ⟨rfl,rfl,rfl⟩:=H
             obtain ⟨Ao61,co61,eo61⟩:=Kd.N_slice HO_8.out
             subst eo61
             have hnb62:=NB260_261.out
             have hnc62:=NB261_260.out
             have hcz63_0:wr.cell? ⟨gb260,0,none⟩=some (u261000):=(blk_cell BK260.out 0).trans rfl
             have hcz63_1:wr.cell? ⟨gb260,1,none⟩=some (u261001):=(blk_cell BK260.out 1).trans rfl
             have hfz63_0:=blk_frozen BK260.out 0
             have hfz63_1:=blk_frozen BK260.out 1
             obtain ⟨Ao64,co64,eo64⟩:=Kd.R_slice HO_261000.out
             subst eo64
             have hcz65_0:wr.cell? ⟨gb261,0,none⟩=some (.slice none 0 0):=(blk_cell BK261.out 0).trans rfl
             have hcz65_1:wr.cell? ⟨gb261,1,none⟩=some (.slice none 0 0):=(blk_cell BK261.out 1).trans rfl
             have hfz65_0:=blk_frozen BK261.out 0
             have hfz65_1:=blk_frozen BK261.out 1
             obtain ⟨Ao66,co66,eo66⟩:=Kd.N_slice HO_261001.out
             subst eo66
             go_wp2
             refine bodyPost_ret (results_ct rfl _ _ gb261 25 #[.slice Ao64 x261000_3.length co64,.slice Ao66 x261001_3.length co66] (0,0) _ rfl (by (with_reducible repeat (first|refine blk_drewN ?_ _|refine blk_drew ?_|refine blk_alloc ?_ _));refine blk_put (cs:=#[.slice Ao64 x261000_3.length co64,.slice none 0 0]) ?_ 1 _ rfl;(with_reducible repeat (first|refine blk_drewN ?_ _|refine blk_drew ?_|refine blk_alloc ?_ _));refine blk_put (cs:=#[.slice none 0 0,.slice none 0 0]) ?_ 0 _ rfl;(with_reducible repeat (first|refine blk_drewN ?_ _|refine blk_drew ?_|refine blk_alloc ?_ _));exact BK261.out) Try.underlying25 rfl (by kernel_rfl)) rfl ?_
             exact ⟨_,_,by first|rfl|(simp [errW_none,errW_some] <;> rfl)|(simp [*,errW_none,errW_some] <;> rfl),by (with_reducible repeat (first|apply Kd.R_alloc|apply Kd.R_drewN|apply Kd.R_drew));exact Kd.R_mono (Kd.R_far (p:=⟨gb261,1,none⟩) (Kd.R_far (p:=⟨gb261,0,none⟩) (Kd.R_types HO_261000.out BK261.out (by decide)) (fun _ hk=>hk.2) (.slice Ao64 x261000_3.length co64)) (fun _ hk=>hk.2) (.slice Ao66 x261001_3.length co66)) (fun _ hk=>hk.1),by (with_reducible repeat (first|apply Kd.N_alloc|apply Kd.N_drewN|apply Kd.N_drew));exact Kd.N_mono (Kd.N_far (p:=⟨gb261,1,none⟩) (Kd.N_far (p:=⟨gb261,0,none⟩) (Kd.N_mono HO_261001.out (fun k_ hk=>(⟨hk,hk.2.2.2.2⟩:_∧k_ ≠ gb261))) (fun _ hk=>hk.2) (.slice Ao64 x261000_3.length co64)) (fun _ hk=>hk.2) (.slice Ao66 x261001_3.length co66)) (fun _ hk=>⟨hk.1.1,hk.1.2.2.1⟩),by repeat (first|(with_reducible first|exact HB.out|apply below_alloc|apply pw_below_drewN|apply below_drew1|refine below_set ?_ GE260.out|refine below_set ?_ GE261.out)|exact HB.out)⟩
end Go.Proofs.Ytfpdmlhknddffaa.Dk
end
section
namespace Go.Proofs.Ytfpdmlhknddffaa.Dk
open Go.RowKit Go.Proofs.YtfpdmlhknddffaaW.PrintWords Go.Proofs.YtfpdmlhknddffaaW.PrintLast Go.Proofs.YtfpdmlhknddffaaW.PrintMore
set_option linter.unusedVariables false
set_option linter.unusedSimpArgs false
theorem u64_wrap (n:Int):IntKind.u64.wrap n=n % 18446744073709551616:=by simp [IntKind.wrap,IntKind.bits,IntKind.signed]
theorem u64_rng (n:Int):0 ≤ IntKind.u64.wrap n∧IntKind.u64.wrap n < 18446744073709551616:=by rw [u64_wrap];omega
theorem xor_rng (a b:Int):0 ≤ Go.bits .xor .u64 a b∧Go.bits .xor .u64 a b < 18446744073709551616:=by unfold Go.bits;exact u64_rng _
theorem shr_div (y:Int) (n c:Nat) (hy:0 ≤ y∧y < 18446744073709551616) (hn:n ≤ 64) (hc:2 ^ n=c):IntKind.u64.wrap (Int.tdiv y (c:Int))=shr .u64 y (n:Int):=by
 have hc0:0 < c:=by rw [← hc];exact Nat.two_pow_pos n
 have hd:Int.tdiv y (c:Int)=y / (c:Int):=Int.tdiv_eq_ediv_of_nonneg hy.1
 have hle:y / (c:Int) ≤ y:=Int.ediv_le_self _ hy.1
 have hge:0 ≤ y / (c:Int):=Int.ediv_nonneg hy.1 (by omega)
 rw [hd,u64_wrap,Int.emod_eq_of_lt hge (by omega)]
 unfold shr
 have e:min (n:Int).toNat IntKind.u64.bits=n:=by simp [IntKind.bits];omega
 rw [e,← hc]
 simp
theorem finish_eq (x n:Int):wageofficeref23_Finish.f x n=some (finS x n):=by
 have h1:∀ y:Int,0 ≤ y∧y < 18446744073709551616→IntKind.u64.wrap (Int.tdiv y 2147483648)=shr .u64 y 31:=fun y hy=>shr_div y 31 2147483648 hy (by decide) (by decide)
 have h2:∀ y:Int,0 ≤ y∧y < 18446744073709551616→IntKind.u64.wrap (Int.tdiv y 134217728)=shr .u64 y 27:=fun y hy=>shr_div y 27 134217728 hy (by decide) (by decide)
 have h3:∀ y:Int,0 ≤ y∧y < 18446744073709551616→IntKind.u64.wrap (Int.tdiv y 8589934592)=shr .u64 y 33:=fun y hy=>shr_div y 33 8589934592 hy (by decide) (by decide)
 unfold wageofficeref23_Finish.f finS
 dsimp only
 rw [h1 _ (xor_rng _ _),h2 _ (u64_rng _),h3 _ (u64_rng _)]
theorem state_ev (s:ByteArray) (hs:s.size ≤ 140737488355328):Ev (fun k=>wageofficeref23_State.f k s) (foldS (bytesOf s)):=by
 have hlen:(bytesOf s).length=s.size:=bytesOf_length s
 have h1:∀ y:Int,0 ≤ y∧y < 18446744073709551616→IntKind.u64.wrap (Int.tdiv y 4294967296)=shr .u64 y 32:=fun y hy=>shr_div y 32 4294967296 hy (by decide) (by decide)
 have key:=ev_down (n:=s.size) (g:=fun i k=>wageofficeref23_State.l0 k s (foldS ((bytesOf s).take i)) (i:Int)) (r:=fun _=>foldS (bytesOf s))
  (by
   rw [List.take_of_length_le (Nat.le_of_eq hlen)]
   refine Ev.step (f:=fun _=>some (foldS (bytesOf s))) (fun k => ?_) (Ev.now _)
   simp only [wageofficeref23_State.l0]
   rw [if_neg (by omega)])
  (by
   intro i hi ih
   refine Ev.step (f:=fun k=>wageofficeref23_State.l0 k s (foldS ((bytesOf s).take (i + 1))) ((i + 1:Nat):Int)) (fun k => ?_) ih
   simp only [wageofficeref23_State.l0]
   rw [if_pos (by omega),if_pos (by omega),h1 _ (u64_rng _),wrap_succ hi (by omega)]
   have hb:(bytesOf s)[i]? = some (bt s (i:Int)):=by
    unfold bt
    rw [List.getElem?_eq_getElem (by rw [hlen];exact hi)]
    simp [bytesOf,hi]
    rfl
   have e:foldS ((bytesOf s).take (i + 1))=stepS (foldS ((bytesOf s).take i)) (bt s (i:Int)):=by
    unfold foldS
    rw [List.take_add_one,hb,Option.toList_some,List.foldl_append]
    rfl
   rw [e]
   rfl)
 have h0:=key 0 (by omega)
 exact h0
theorem refsum_ev (s:ByteArray) (hs:s.size ≤ 140737488355328):Ev (fun k=>wageofficeref23_Sum.f k s) (sumS s):=by
 unfold wageofficeref23_Sum.f
 refine Ev.bind (state_ev s hs) ?_
 rw [finish_eq]
 exact Ev.now _
end Go.Proofs.Ytfpdmlhknddffaa.Dk
end
section
namespace Go.Proofs.Ytfpdmlhknddffaa.Dk
open Go.RowKit Go.Proofs.YtfpdmlhknddffaaW.PrintWords Go.Proofs.YtfpdmlhknddffaaW.PrintLast Go.Proofs.YtfpdmlhknddffaaW.PrintMore
set_option linter.unusedVariables false
set_option linter.unusedSimpArgs false
theorem numL2 (n:Int):numL 2 n=[n / 256 % 256,n % 256]:=by
 unfold numL
 simp [List.range_succ,shr,IntKind.bits]
theorem and16 (k:Int) (h0:0 ≤ k) (h1:k < 65536):Go.bits .and .i64 k 65535=k:=by
 have h:=bits_mask .i64 63 (by decide) wraps_i64 16 (by decide) k h0 (by omega)
 have e:(2:Int) ^ 16 - 1=65535:=by decide
 rw [e] at h
 rw [h]
 omega
theorem headL_eq (r:List Int) (k:Int) (h0:0 ≤ k) (h1:k < 65536) (hr:r.length < 65536):headL r k=[((r.length:Int) / 256) % 256,((r.length:Int)) % 256,(k / 256) % 256,k % 256]:=by
 unfold headL
 have e1:(r.length:Int) % 18446744073709551616=(r.length:Int):=Int.emod_eq_of_lt (by omega) (by omega)
 have e2:k % 18446744073709551616=k:=Int.emod_eq_of_lt h0 (by omega)
 rw [numL2,numL2,u64_wrap,and16 k h0 h1,u64_wrap,e1,e2]
 rfl
theorem code_loop (r out:List Int) (s:Int) (j:Nat) (hj:j ≤ 8) (ho:out.length + r.length + 8 < 140737488355328) :
 Ev (fun k=>wageofficeref43_Code.l0 k r s (out ++ (numL 8 s).take j) (56 - 8 * (j:Int))) (out ++ numL 8 s ++ r):=by
 have key:=ev_down (n:=8) (g:=fun j k=>wageofficeref43_Code.l0 k r s (out ++ (numL 8 s).take j) (56 - 8 * (j:Int))) (r:=fun _=>out ++ numL 8 s ++ r)
  (by
   rw [List.take_of_length_le (by rw [numL_length];exact Nat.le_refl _)]
   refine Ev.step (f:=fun _=>some (out ++ numL 8 s ++ r)) (fun k => ?_) (Ev.now _)
   simp only [wageofficeref43_Code.l0]
   rw [if_neg (by omega),if_pos (by rw [List.length_append,numL_length];omega)])
  (by
   intro j hj ih
   have hu:IntKind.u64.wrap (56 - 8 * (j:Int))=8 * ((8 - 1 - j:Nat):Int):=by rw [u64_wrap];omega
   have hw:wrap64 (56 - 8 * (j:Int) - 8)=56 - 8 * ((j + 1:Nat):Int):=by unfold wrap64;omega
   refine Ev.step (f:=fun k=>wageofficeref43_Code.l0 k r s (out ++ (numL 8 s).take (j + 1)) (56 - 8 * ((j + 1:Nat):Int))) (fun k => ?_) ih
   simp only [wageofficeref43_Code.l0]
   rw [if_pos (by omega),hu,if_pos (by omega),if_pos (by rw [List.length_append,List.length_take];omega),hw,numL_take 8 s j hj,List.append_assoc])
 exact key j hj
theorem code_ev (r:List Int) (k0:Int) (h0:0 ≤ k0) (h1:k0 < 65536) (hr:r.length < 65536):Ev (fun k=>wageofficeref43_Code.f k r k0) (encL r k0):=by
 have he:=headL_eq r k0 h0 h1 hr
 have hs1:(strOfNums (headL r k0)).size=4:=by rw [strOfNums_size,headL_length]
 have hs2:(strOfNums r).size=r.length:=strOfNums_size r
 have hs3:(strOfNums (headL r k0) ++ strOfNums r).size=4 + r.length:=by rw [ByteArray.size_append,hs1,hs2]
 have hl:=code_loop r ([82] ++ headL r k0) (sumS (strOfNums (headL r k0) ++ strOfNums r)) 0 (by omega) (by rw [List.length_append,headL_length];simp;omega)
 rw [List.take_zero,List.append_nil] at hl
 refine Ev.congr (f:=fun k=>(wageofficeref23_Sum.f k (strOfNums (headL r k0) ++ strOfNums r)).bind fun t=>wageofficeref43_Code.l0 k r t ([82] ++ headL r k0) 56) (fun k => ?_) ?_
 · unfold wageofficeref43_Code.f
   rw [← he]
   simp only [Option.bind_some]
   rw [if_pos (by omega)]
   rfl
 · exact Ev.bind (f:=fun k t=>wageofficeref43_Code.l0 k r t ([82] ++ headL r k0) 56) (refsum_ev _ (by omega)) (by simpa [encL] using hl)
theorem same43_ev (a b:List Int) (ha:a.length ≤ 9223372036854775807):Ev (fun k=>wageofficeref43_Same.f k a b) (decide (a=b)):=by
 by_cases hl:a.length=b.length
 · have key:=ev_down (n:=a.length) (g:=fun i k=>wageofficeref43_Same.l0 k a b (i:Int)) (r:=fun i=>decide (a.drop i=b.drop i))
    (by
     refine Ev.step (f:=fun _=>some true) (fun k => ?_) (ev_eq (Ev.now true) (by simp [hl]))
     simp only [wageofficeref43_Same.l0]
     rw [if_neg (by omega)])
    (by
     intro i hi ih
     have hb:i < b.length:=by omega
     by_cases he:a[i]=b[i]
     · refine Ev.step (f:=fun k=>wageofficeref43_Same.l0 k a b ((i + 1:Nat):Int)) (fun k => ?_) (ev_eq ih ?_)
       · simp only [wageofficeref43_Same.l0]
         rw [if_pos (by omega),if_pos (by omega),if_pos (by omega),rd_nat hi,rd_nat hb,if_pos he,wrap_succ hi ha]
       · rw [List.drop_eq_getElem_cons hi,List.drop_eq_getElem_cons hb,he]
         simp only [List.cons.injEq,true_and]
     · refine Ev.step (f:=fun _=>some false) (fun k => ?_) (ev_eq (Ev.now false) ?_)
       · simp only [wageofficeref43_Same.l0]
         rw [if_pos (by omega),if_pos (by omega),if_pos (by omega),rd_nat hi,rd_nat hb,if_neg he]
       · rw [List.drop_eq_getElem_cons hi,List.drop_eq_getElem_cons hb]
         simp only [List.cons.injEq,he,false_and,decide_false])
    0 (by omega)
   refine Ev.congr (fun k => ?_) key
   unfold wageofficeref43_Same.f
   rw [if_pos (by omega)]
   rfl
 · refine Ev.congr (f:=fun _=>some false) (fun k => ?_) (ev_eq (Ev.now false) ?_)
   · unfold wageofficeref43_Same.f
     rw [if_neg (by omega)]
   · symm;rw [decide_eq_false_iff_not];intro h;exact hl (by rw [h])
theorem rdL2_nat {xs:List (List Int)} {i:Nat} (h:i < xs.length):rd_L2 xs (i:Int)=xs[i]:=by
 unfold rd_L2;simp [List.getD,h]
theorem sameAll_ev (a b:List (List Int)) (ha:a.length ≤ 9223372036854775807) (hx:∀ x ∈ a,x.length ≤ 9223372036854775807):Ev (fun k=>wageofficeref43_SameAll.f k a b) (decide (a=b)):=by
 by_cases hl:a.length=b.length
 · have key:=ev_down (n:=a.length) (g:=fun i k=>wageofficeref43_SameAll.l0 k a b (i:Int)) (r:=fun i=>decide (a.drop i=b.drop i))
    (by
     refine Ev.step (f:=fun _=>some true) (fun k => ?_) (ev_eq (Ev.now true) (by simp [hl]))
     simp only [wageofficeref43_SameAll.l0]
     rw [if_neg (by omega)])
    (by
     intro i hi ih
     have hb:i < b.length:=by omega
     have hs:=same43_ev a[i] b[i] (hx _ (List.getElem_mem _))
     refine Ev.step (f:=fun k=>(wageofficeref43_Same.f k a[i] b[i]).bind fun t=>if t=true then wageofficeref43_SameAll.l0 k a b ((i + 1:Nat):Int) else some false) (fun k => ?_) ?_
     · simp only [wageofficeref43_SameAll.l0]
       rw [if_pos (by omega),if_pos (by omega),if_pos (by omega),rdL2_nat hi,rdL2_nat hb,wrap_succ hi ha]
     · by_cases he:a[i]=b[i]
       · rw [decide_eq_true he] at hs
         refine ev_eq (Ev.bind (f:=fun k t=>if t=true then wageofficeref43_SameAll.l0 k a b ((i + 1:Nat):Int) else some false) hs (by simpa using ih)) ?_
         rw [List.drop_eq_getElem_cons hi,List.drop_eq_getElem_cons hb,he]
         simp only [List.cons.injEq,true_and]
       · rw [decide_eq_false he] at hs
         refine ev_eq (Ev.bind (f:=fun k t=>if t=true then wageofficeref43_SameAll.l0 k a b ((i + 1:Nat):Int) else some false) hs (r:=false) (by simpa using Ev.now false)) ?_
         rw [List.drop_eq_getElem_cons hi,List.drop_eq_getElem_cons hb]
         simp only [List.cons.injEq,he,false_and,decide_false])
    0 (by omega)
   refine Ev.congr (fun k => ?_) key
   unfold wageofficeref43_SameAll.f
   rw [if_pos (by omega)]
   rfl
 · refine Ev.congr (f:=fun _=>some false) (fun k => ?_) (ev_eq (Ev.now false) ?_)
   · unfold wageofficeref43_SameAll.f
     rw [if_neg (by omega)]
   · symm;rw [decide_eq_false_iff_not];intro h;exact hl (by rw [h])
theorem same_nil_ev (a b:List Int) (ha:a.length ≤ 9223372036854775807):Ev (fun k=>wageofficelaw43_same.f k a [] b []) (decide (a=b)):=by
 have hs:=same43_ev a b ha
 unfold wageofficelaw43_same.f
 by_cases he:a=b
 · rw [decide_eq_true he] at hs ⊢
   refine Ev.bind hs (Ev.step (f:=fun k=>wageofficelaw43_same.l0 k 0 0 a [] b []) (fun k => ?_) (Ev.step (f:=fun _=>some true) (fun k => ?_) (Ev.now true)))
   · rw [if_pos rfl]
     simp only [wageofficelaw43_same.j0]
     rw [if_neg (by simp)]
     rfl
   · simp only [wageofficelaw43_same.l0]
     rw [if_neg (by omega)]
 · rw [decide_eq_false he] at hs ⊢
   refine Ev.bind hs (Ev.step (f:=fun _=>some false) (fun k => ?_) (Ev.now false))
   rw [if_neg (by decide)]
   simp only [wageofficelaw43_same.j0]
   rw [if_pos trivial]
end Go.Proofs.Ytfpdmlhknddffaa.Dk
end
section
namespace Go.Proofs.Ytfpdmlhknddffaa.Dk
open Go.RowKit Go.Proofs.YtfpdmlhknddffaaW.PrintWords Go.Proofs.YtfpdmlhknddffaaW.PrintLast Go.Proofs.YtfpdmlhknddffaaW.PrintMore
set_option linter.unusedVariables false
set_option linter.unusedSimpArgs false
theorem strNums_eq {a b:List Int} (ha:∀ x ∈ a,0 ≤ x∧x ≤ 255) (hb:∀ x ∈ b,0 ≤ x∧x ≤ 255):((strOfNums a).toList == (strOfNums b).toList)=decide (a=b):=by
 have hi:∀ (a b:List Int),(∀ x ∈ a,0 ≤ x∧x ≤ 255)→(∀ x ∈ b,0 ≤ x∧x ≤ 255)→(a.map fun n=>UInt8.ofNat n.toNat)=(b.map fun n=>UInt8.ofNat n.toNat)→a=b:=by
  intro a
  induction a with
  | nil=>intro b _ _ h;cases b with
   | nil=>rfl
   | cons y b=>simp at h
  | cons x a ih =>
   intro b h1 h2 h
   cases b with
   | nil=>simp at h
   | cons y b =>
    simp only [List.map_cons,List.cons.injEq] at h
    have hx:=h1 x (by simp)
    have hy:=h2 y (by simp)
    have e:=congrArg UInt8.toNat h.1
    simp at e
    have e2:x=y:=by omega
    rw [e2,ih b (fun z hz=>h1 z (by simp [hz])) (fun z hz=>h2 z (by simp [hz])) h.2]
 have e1:∀ xs:List Int,(strOfNums xs).toList=xs.map fun n=>UInt8.ofNat n.toNat:=fun xs=>Lib.strOfNums_toList xs
 rw [e1,e1]
 by_cases h:a=b
 · subst h
   simp
 · rw [decide_eq_false h,beq_eq_false_iff_ne]
   exact fun e=>h (hi a b ha hb e)
theorem encL_rng (r:List Int) (k:Int) (hr:∀ x ∈ r,0 ≤ x∧x ≤ 255):∀ x ∈ encL r k,0 ≤ x∧x ≤ 255:=by
 intro x hx
 have hn:∀ (s:Nat) (n:Int),∀ y ∈ numL s n,0 ≤ y∧y ≤ 255:=by
  intro s n y hy
  unfold numL at hy
  obtain ⟨j,_,rfl⟩:=List.mem_map.1 hy
  omega
 unfold encL headL at hx
 simp only [List.mem_append,List.mem_singleton] at hx
 rcases hx with ((h|h|h)|h)|h
 · omega
 · exact hn _ _ _ h
 · exact hn _ _ _ h
 · exact hn _ _ _ h
 · exact hr _ h
theorem seg_rng {b:List Int} (hb:∀ x ∈ b,0 ≤ x∧x ≤ 255) (i j:Nat):∀ x ∈ (b.take j).drop i,0 ≤ x∧x ≤ 255:=fun x hx=>hb x (List.mem_of_mem_take (List.mem_of_mem_drop hx))
theorem recEq_iff {b:List Int} (hb:∀ x ∈ b,0 ≤ x∧x ≤ 255) (k at_ n:Nat):recEq b k at_ n=decide (encL ((b.take (at_ + 13 + n)).drop (at_ + 13)) (k:Int)=(b.take (at_ + 13 + n)).drop at_):=by
 unfold recEq
 exact strNums_eq (encL_rng _ _ (seg_rng hb _ _)) (seg_rng hb _ _)
set_option maxHeartbeats 1000000 in
theorem record_ev {b:List Int} (hb:∀ x ∈ b,0 ≤ x∧x ≤ 255) (hl:b.length ≤ 65536) (k at_:Nat) (hk:k < 65536) (hat:at_ ≤ b.length) :
 (∀ x,recAt b k at_=some x→Ev (fun f=>wageofficeref43_record.f f b (at_:Int) (k:Int)) (x.1,true))∧(recAt b k at_=none→∃ o,Ev (fun f=>wageofficeref43_record.f f b (at_:Int) (k:Int)) (o,false)):=by
 have hno:∀ (g:Nat→Option (List Int × Bool)),(∀ f,g f=wageofficeref43_record.j0 f b (at_:Int) (k:Int) true)→Ev g (([]:List Int),false):=by
  intro g hg
  refine Ev.congr hg (Ev.step (f:=fun _=>some (([]:List Int),false)) (fun f => ?_) (Ev.now _))
  simp only [wageofficeref43_record.j0]
  rw [if_pos trivial]
 by_cases h14:at_ + 13 < b.length
 · have hw0:Hid (wrap64 ((b.length:Int) - (at_:Int))=(b.length:Int) - (at_:Int)):=Lib.hid (wrap_ok _ (by omega) (by omega))
   have hw1:Hid (wrap64 ((at_:Int) + 1)=((at_ + 1:Nat):Int)):=Lib.hid (by rw [wrap_ok _ (by omega) (by omega)];rfl)
   have hw2:Hid (wrap64 ((at_:Int) + 2)=((at_ + 2:Nat):Int)):=Lib.hid (by rw [wrap_ok _ (by omega) (by omega)];rfl)
   have hw13:Hid (wrap64 ((at_:Int) + 13)=((at_ + 13:Nat):Int)):=Lib.hid (by rw [wrap_ok _ (by omega) (by omega)];rfl)
   have r1:0 ≤ b.getD (at_ + 1) 0∧b.getD (at_ + 1) 0 ≤ 255:=byte_at hb (at_ + 1)
   have r2:0 ≤ b.getD (at_ + 2) 0∧b.getD (at_ + 2) 0 ≤ 255:=byte_at hb (at_ + 2)
   have en:=numAt_eq r1 r2
   obtain ⟨n,hn⟩:∃ n:Nat,numAt b at_=(n:Int):=⟨(numAt b at_).toNat,by omega⟩
   have d1:rd b ((at_ + 1:Nat):Int)=b.getD (at_ + 1) 0:=rfl
   have d2:rd b ((at_ + 2:Nat):Int)=b.getD (at_ + 2) 0:=rfl
   have hN:Hid (wrap64 ((wrap64 ((wrap64 (rd b (wrap64 ((at_:Int) + 1)))) * 256)) + (wrap64 (rd b (wrap64 ((at_:Int) + 2)))))=(n:Int)):=Lib.hid (by
    rw [hw1.out,hw2.out,d1,d2,wrap_ok (b.getD (at_ + 1) 0) (by omega) (by omega),wrap_ok (b.getD (at_ + 2) 0) (by omega) (by omega),wrap_ok (b.getD (at_ + 1) 0 * 256) (by omega) (by omega),wrap_ok _ (by omega) (by omega)]
    omega)
   have hwN:Hid (wrap64 ((at_ + 13:Nat) + (n:Int):Int)=((at_ + 13 + n:Nat):Int)):=Lib.hid (by rw [wrap_ok _ (by omega) (by omega)];rfl)
   have hw3:Hid (wrap64 (13 + (n:Int))=13 + (n:Int)):=Lib.hid (wrap_ok _ (by omega) (by omega))
   by_cases hm:rd b (at_:Int)=82
   · 
     have s0:∀ f,wageofficeref43_record.f f b (at_:Int) (k:Int)=wageofficeref43_record.j0 f b (at_:Int) (k:Int) false:=by
      intro f
      unfold wageofficeref43_record.f
      rw [hw0.out,if_neg (by omega),if_pos (by omega),if_pos (by omega),hm]
      rfl
     have s1:∀ f,wageofficeref43_record.j0 (f + 1) b (at_:Int) (k:Int) false=(if (n:Int) < 1 then wageofficeref43_record.j1 f b (at_:Int) (k:Int) (n:Int) true else if (n:Int) > 4096 then wageofficeref43_record.j1 f b (at_:Int) (k:Int) (n:Int) true else wageofficeref43_record.j1 f b (at_:Int) (k:Int) (n:Int) (decide ((b.length:Int) - (at_:Int) < 13 + (n:Int)))):=by
      intro f
      simp only [wageofficeref43_record.j0]
      rw [hN.out,hw1.out,hw2.out,hw0.out,hw3.out,if_neg (by decide),if_pos (by omega),if_pos (by omega),if_pos (by omega),if_pos (by omega)]
     have hno1:∀ f,wageofficeref43_record.j1 (f + 1) b (at_:Int) (k:Int) (n:Int) true=some (([]:List Int),false):=by
      intro f
      simp only [wageofficeref43_record.j1]
      rw [if_pos trivial]
     have no2:(n < 1∨4096 < n∨b.length < at_ + 13 + n)→Ev (fun f=>wageofficeref43_record.f f b (at_:Int) (k:Int)) (([]:List Int),false):=by
      intro h
      refine Ev.congr s0 (Ev.step s1 (Ev.step (f:=fun _=>some (([]:List Int),false)) (fun f => ?_) (Ev.now _)))
      split
      · exact hno1 f
      · split
        · exact hno1 f
        · rw [decide_eq_true (by omega)]
          exact hno1 f
     by_cases hr:n < 1∨4096 < n∨b.length < at_ + 13 + n
     · refine ⟨fun x hx => ?_,fun _=>⟨_,no2 hr⟩⟩
       have:recAt b k at_=none:=recAt_none_of hn (by omega)
       rw [this] at hx
       cases hx
     · obtain ⟨R,hR⟩:∃ R,R=(b.take (at_ + 13 + n)).drop (at_ + 13):=⟨_,rfl⟩
       obtain ⟨G,hG⟩:∃ G,G=(b.take (at_ + 13 + n)).drop at_:=⟨_,rfl⟩
       have hRl:R.length=n:=by rw [hR,List.length_drop,List.length_take];omega
       have hGl:(encL R (k:Int)).length=13 + n:=by rw [encL_length,hRl]
       have hrec:=recEq_iff hb k at_ n
       rw [← hR,← hG] at hrec
       have main:Ev (fun f=>wageofficeref43_record.f f b (at_:Int) (k:Int)) (R,decide (encL R (k:Int)=G)):=by
        refine Ev.congr s0 (Ev.step s1 (Ev.step (f:=fun f=>(wageofficeref43_Code.f f R (k:Int)).bind fun t=>(wageofficeref43_Same.f f t G).bind fun t2=>some (R,t2)) (fun f => ?_) ?_))
        · rw [if_neg (by omega),if_neg (by omega),decide_eq_false (by omega)]
          simp only [wageofficeref43_record.j1]
          rw [hw13.out,hwN.out,if_neg (by decide),if_pos (by omega),if_pos (by omega),if_pos (by omega)]
          simp only [Int.toNat_natCast]
          rw [← hR,← hG,if_pos (by simp;omega)]
          simp only [Option.bind_some,List.nil_append]
          congr 1
          funext t
          rw [if_pos (by omega),if_pos (by omega)]
        · refine Ev.bind (f:=fun f t=>(wageofficeref43_Same.f f t G).bind fun t2=>some (R,t2)) (code_ev R (k:Int) (by omega) (by omega) (by omega)) ?_
          exact Ev.bind (f:=fun _ t2=>some (R,t2)) (same43_ev _ G (by omega)) (Ev.now _)
       constructor
       · intro x hx
         cases he:recEq b k at_ n
         · rw [recAt_none_of hn (.inr (.inr (.inr he)))] at hx
           cases hx
         · rw [recAt_some_of hn h14 (by omega) (by omega) (by omega) he,← hR] at hx
           injection hx with hx
           subst hx
           rw [he] at hrec
           rw [← hrec] at main
           exact main
       · intro hx
         cases he:recEq b k at_ n
         · rw [he] at hrec
           rw [← hrec] at main
           exact ⟨R,main⟩
         · rw [recAt_some_of hn h14 (by omega) (by omega) (by omega) he] at hx
           cases hx
   · 
     have hnone:recAt b k at_=none:=by
      by_cases hr:n < 1∨4096 < n∨b.length < at_ + 13 + n
      · exact recAt_none_of hn (by omega)
      · refine recAt_none_of hn (.inr (.inr (.inr ?_)))
        rw [recEq_iff hb,decide_eq_false_iff_not]
        intro e
        have h0:=congrArg (fun l:List Int=>l.getD 0 0) e
        apply hm
        have h1:((b.take (at_ + 13 + n)).drop at_).getD 0 0=rd b (at_:Int):=by
         unfold rd
         rw [List.getD_eq_getElem?_getD,List.getElem?_drop,List.getElem?_take_of_lt (by omega),List.getD_eq_getElem?_getD]
         rfl
        rw [h1] at h0
        rw [← h0]
        rfl
     refine ⟨fun x hx=>(by rw [hnone] at hx;cases hx),fun _=>⟨_,hno _ (fun f => ?_)⟩⟩
     unfold wageofficeref43_record.f
     rw [hw0.out,if_neg (by omega),if_pos (by omega),if_pos (by omega)]
     congr 1
     simpa using hm
 · have hnone:recAt b k at_=none:=by unfold recAt;rw [if_neg (by omega)]
   refine ⟨fun x hx=>(by rw [hnone] at hx;cases hx),fun _=>⟨_,hno _ (fun f => ?_)⟩⟩
   unfold wageofficeref43_record.f
   rw [wrap_ok _ (by omega) (by omega),if_pos (by omega)]
end Go.Proofs.Ytfpdmlhknddffaa.Dk
end
