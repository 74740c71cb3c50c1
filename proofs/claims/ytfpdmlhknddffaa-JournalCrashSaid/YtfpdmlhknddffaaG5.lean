/- Contracts of functions, and plain laws, that the statement's proof uses; printed and joined by programs of this session. -/
import Derived.Test.YtfpdmlhknddffaaG4
import Derived.Test.YtfpdmlhknddffaaProg
import Derived.Below
import Derived.Deep.Draws
import Derived.Deep.AppendLies
import Derived.Maps.AppendAt
import Derived.OwnWalk
import Derived.Laws.BytesArg
import Derived.Laws.MakeOwn
import Derived.Laws.OwnMore
import Derived.Deep.OwnRows
import Derived.Tactics
import Derived.Lib.ConvBytes
import Derived.Laws.Slices
import Derived.WalkKit
import Derived.KernelRfl
import Derived.RowKit3
import Derived.Deep.LoopGhost
import Derived.Deep.QuietTactic
import Derived.BigQuiet
import Derived.WideLaws
import Derived.Deep.DeepCutAuto
import Derived.Deep.CutBlock
import Derived.Deep.RegionHeld3
import Derived.Laws.Rows
import Derived.Lib.AppendStr
import Derived.ArgAppend
import Derived.Laws.IdiomCopy
import Derived.OrdersHeld
import Derived.Laws.BitsLemmas
import Derived.RowKit
section
namespace Go.Proofs.Ytfpdmlhknddffaa.Dk
open Go.RowKit Go.Proofs.YtfpdmlhknddffaaW.PrintWords Go.Proofs.YtfpdmlhknddffaaW.PrintLast Go.Proofs.YtfpdmlhknddffaaW.PrintMore
set_option linter.unusedVariables false
set_option linter.unusedSimpArgs false
theorem valid_nil {X:List Int} (h:X.length ≤ 65536):validB X []=true:=(validB_iff _ _).2 ⟨h,by simp,by simp⟩
theorem sync_nil (X:List Int) (h:X.length ≤ 65536):syncL X []=X:=by
 unfold syncL applyL
 rw [if_pos (valid_nil h)]
 rfl
theorem write_nil {X:List Int} (h:X.length ≤ 65536) (a:Nat) (d:List Int) (hd:a + d.length ≤ X.length):writeF X [] (a:Int) d=(X,[⟨(a:Int),d⟩],0):=by
 unfold writeF
 have hp:isPartB (X.length:Int) (a:Int) (d.length:Int)=true:=(isPartB_iff _ _ _).2 (by omega)
 rw [valid_nil h,hp]
 rfl
theorem sync_one {X:List Int} (h:X.length ≤ 65536) (a:Nat) (d:List Int) (hd:a + d.length ≤ X.length):syncL X [⟨(a:Int),d⟩]=splice X a d:=by
 have hp:isPartB (X.length:Int) (a:Int) (d.length:Int)=true:=(isPartB_iff _ _ _).2 (by omega)
 have hs:=sync_snoc X [] (a:Int) d (valid_nil h) (valid_snoc X [] (a:Int) d (valid_nil h) hp (by simp))
 rw [sync_nil X h] at hs
 simpa using hs
theorem put_eq {l0:List Int} {l1:List S45} (X:List Int) (hX:syncL l0 l1=X) (h:X.length ≤ 65536) (a:Nat) (d:List Int) (hd:a + d.length ≤ X.length):journal_put.f l0 l1 (a:Int) d=some (splice X a d,[],0):=by
 unfold journal_put.f disk_Sync.f disk_Write.f
 simp only [Option.bind_some]
 rw [hX,write_nil h a d hd]
 simp only [Option.bind_some]
 rw [if_pos trivial,sync_one h a d hd]
def appB (X:List Int) (a:Nat) (code:List Int):List Int:=splice (splice (splice X a [0]) (a + 1) (appRest a X.length code)) a [82]
def appL (l0:List Int) (l1:List S45) (r:List Int):List Int × List S45 × Int :=
 if validB l0 l1=true∧r.length ≠ 0 then
  (if 4096 < r.length∨l0.length < endN (jrecs l0 l1) 0 + 13 + r.length then ([],[],2)
   else (appB (syncL l0 l1) (endN (jrecs l0 l1) 0) (encL r ((jrecs l0 l1).length:Int)),[],0))
 else ([],[],1)
theorem appRest_len (a n:Nat) (code:List Int) (hc:1 ≤ code.length) (h:a + code.length ≤ n):a + 1 + (appRest a n code).length ≤ n:=by
 unfold appRest
 split
 · simp;omega
 · simp;omega
theorem append_eq {l0:List Int} {l1:List S45} (hb:Byt l0 l1) (r:List Int) (h0:l0.length ≤ 65536) (hr:r.length ≤ 140737488355328):journal_Append.f l0 l1 r=some (appL l0 l1 r):=by
 unfold journal_Append.f appL
 rw [if_pos ⟨h0,hr⟩,read_00]
 by_cases hc:validB l0 l1=true∧r.length ≠ 0
 · rw [if_pos hc,if_pos hc,records_eq hb]
   simp only [Option.bind_some]
   obtain ⟨f1,f2,f3,f4⟩:=jrecs_facts (l0:=l0) (l1:=l1)
   have he:endOf (jrecs l0 l1)=((endN (jrecs l0 l1) 0:Nat):Int):=rfl
   have hk:(fsts (jrecs l0 l1)).length=(jrecs l0 l1).length:=by simp [fsts]
   rw [he,if_pos (by omega),Int.toNat_natCast,hk]
   by_cases hl:4096 < r.length∨l0.length < endN (jrecs l0 l1) 0 + 13 + r.length
   · rw [if_pos hl,if_pos hl]
   · rw [if_neg hl,if_neg hl]
     obtain ⟨X,hX⟩:∃ X,X=syncL l0 l1:=⟨_,rfl⟩
     obtain ⟨a,ha⟩:∃ a,a=endN (jrecs l0 l1) 0:=⟨_,rfl⟩
     obtain ⟨code,hcd⟩:∃ code,code=encL r ((jrecs l0 l1).length:Int):=⟨_,rfl⟩
     have hXl:X.length=l0.length:=by rw [hX];exact sync_len _ _ hc.1
     have hcl:code.length=13 + r.length:=by rw [hcd];exact encL_length _ _
     rw [← hX,← ha,← hcd]
     rw [← ha] at hl f1 f2 f3
     have hrl:=appRest_len a X.length code (by omega) (by omega)
     have p1:=put_eq X hX.symm (by omega) a [0] (by simp;omega)
     have l1':(splice X a [0]).length=X.length:=splice_length _ _ _ (by simp;omega)
     have p2:=put_eq (l0:=splice X a [0]) (l1:=[]) (splice X a [0]) (sync_nil _ (by omega)) (by omega) (a + 1) (appRest a X.length code) (by omega)
     have l2':(splice (splice X a [0]) (a + 1) (appRest a X.length code)).length=X.length:=by rw [splice_length _ _ _ (by omega)];exact l1'
     have p3:=put_eq (l0:=splice (splice X a [0]) (a + 1) (appRest a X.length code)) (l1:=[]) _ (sync_nil _ (by omega)) (by omega) a [82] (by simp;omega)
     have e1:((a:Int) + 1)=((a + 1:Nat):Int):=rfl
     rw [p1]
     simp only [Option.bind_some]
     rw [if_pos trivial,e1,← hXl,p2]
     simp only [Option.bind_some]
     rw [if_pos trivial,p3]
     simp only [Option.bind_some]
     rw [if_pos trivial]
     rfl
 · rw [if_neg hc,if_neg hc]
def writesL (l0:List Int) (l1:List S45) (r:List Int):List S45:=[⟨(endN (jrecs l0 l1) 0:Nat),[0]⟩,⟨((endN (jrecs l0 l1) 0 + 1:Nat):Int),appRest (endN (jrecs l0 l1) 0) l0.length (encL r ((jrecs l0 l1).length:Int))⟩,⟨(endN (jrecs l0 l1) 0:Nat),[82]⟩]
theorem writes_ev {l0:List Int} {l1:List S45} (hf:Fit l1) (hb:Byt l0 l1) (r:List Int) (hr:r.length ≤ 4096):Ev (fun k=>wageofficeref43_Writes.f k l0 l1 r) (writesL l0 l1 r):=by
 obtain ⟨f1,f2,f3,f4⟩:=jrecs_facts (l0:=l0) (l1:=l1)
 have he:endOf (jrecs l0 l1)=((endN (jrecs l0 l1) 0:Nat):Int):=rfl
 have hk:(fsts (jrecs l0 l1)).length=(jrecs l0 l1).length:=by simp [fsts]
 obtain ⟨code,hcd⟩:∃ code,code=encL r ((jrecs l0 l1).length:Int):=⟨_,rfl⟩
 have hcl:code.length=13 + r.length:=by rw [hcd];exact encL_length _ _
 have hce:Ev (fun k=>wageofficeref43_Code.f k r ((jrecs l0 l1).length:Int)) code:=by rw [hcd];exact code_ev r _ (by omega) (by omega) (by omega)
 unfold wageofficeref43_Writes.f writesL
 rw [← hcd]
 refine Ev.bind (refRecords_ev hf hb) ?_
 rw [hk,he]
 obtain ⟨a,ha⟩:∃ a,a=endN (jrecs l0 l1) 0:=⟨_,rfl⟩
 rw [← ha]
 rw [← ha] at f1 f3
 refine Ev.bind hce ?_
 have w1:wrap64 ((a:Int) + (code.length:Int))=((a + code.length:Nat):Int):=by rw [wrap_ok _ (by omega) (by omega)];rfl
 have w2:wrap64 ((a:Int) + 1)=((a + 1:Nat):Int):=by rw [wrap_ok _ (by omega) (by omega)];rfl
 rw [w1,w2]
 refine Ev.congr (f:=fun _=>some _) (fun k => ?_) (Ev.now _)
 rw [if_pos (by omega)]
 simp only [Option.bind_some,List.nil_append]
 rw [if_pos (by simp;omega)]
 unfold appRest
 by_cases hlt:a + code.length < l0.length
 · rw [if_pos (by omega),if_pos (by simp;omega),if_pos hlt]
 · rw [if_neg (by omega),if_neg hlt]
end Go.Proofs.Ytfpdmlhknddffaa.Dk
end
section
namespace Go.Proofs.Ytfpdmlhknddffaa.Dk
open Go.RowKit Go.Proofs.YtfpdmlhknddffaaW.PrintWords Go.Proofs.YtfpdmlhknddffaaW.PrintLast Go.Proofs.YtfpdmlhknddffaaW.PrintMore
set_option linter.unusedVariables false
set_option linter.unusedSimpArgs false
def Meek (l1:List S45):Prop:=∀ x ∈ l1,x.f1.length ≤ 140737488355328
def sumW (l1:List S45) (n:Int):Nat→Int
 | 0=>n
 | i + 1=>wrap64 (sumW l1 n i + ((l1.getD i z45).f1.length:Int))
def smallV (l0:List Int) (l1:List S45):Bool:=decide (sumW l1 (l0.length:Int) l1.length ≤ 8000) && decide (l1.length ≤ 65)
theorem small43_ev (l0:List Int) (l1:List S45) (h:l1.length ≤ 9223372036854775807):Ev (fun k=>wageofficelaw43_small.f k l0 l1) (smallV l0 l1):=by
 have key:=ev_down (n:=l1.length) (g:=fun i k=>wageofficelaw43_small.l0 k (sumW l1 (l0.length:Int) i) l1 (l1.length:Int) (i:Int) l0 l1) (r:=fun _=>smallV l0 l1)
  (by
   refine Ev.step (f:=fun _=>some (smallV l0 l1)) (fun k => ?_) (Ev.now _)
   simp only [wageofficelaw43_small.l0]
   rw [if_neg (by omega)]
   unfold smallV
   by_cases hs:sumW l1 (l0.length:Int) l1.length ≤ 8000
   · rw [if_pos hs,decide_eq_true hs,Bool.true_and]
     congr 1
     exact decide_eq_decide.2 (by omega)
   · rw [if_neg hs,decide_eq_false hs,Bool.false_and])
  (by
   intro i hi ih
   refine Ev.step (f:=fun k=>wageofficelaw43_small.l0 k (sumW l1 (l0.length:Int) (i + 1)) l1 (l1.length:Int) ((i + 1:Nat):Int) l0 l1) (fun k => ?_) ih
   simp only [wageofficelaw43_small.l0]
   rw [if_pos (by omega),if_pos (by omega),if_pos (by omega),rd45_nat hi,wrap_succ hi h]
   have e:sumW l1 (l0.length:Int) (i + 1)=wrap64 (sumW l1 (l0.length:Int) i + (l1[i].f1.length:Int)):=by
    show wrap64 (_ + ((l1.getD i z45).f1.length:Int))=_
    rw [List.getD_eq_getElem?_getD,List.getElem?_eq_getElem hi]
    rfl
   rw [e])
 exact key 0 (by omega)
theorem sumW_ge (l1:List S45) (hm:Meek l1) (n:Nat) (hn:n ≤ 140737488355328):∀ i,i ≤ l1.length→i ≤ 65→(n:Int) ≤ sumW l1 (n:Int) i∧sumW l1 (n:Int) i ≤ (n:Int) + 140737488355328 * i∧∀ j,j < i→((l1.getD j z45).f1.length:Int) ≤ sumW l1 (n:Int) i:=by
 intro i
 induction i with
 | zero=>intro _ _;exact ⟨by simp [sumW],by simp [sumW],fun j hj=>by omega⟩
 | succ i ih =>
  intro h1 h2
  obtain ⟨a,b,c⟩:=ih (by omega) (by omega)
  have hmem:l1.getD i z45 ∈ l1:=by
   rw [List.getD_eq_getElem?_getD,List.getElem?_eq_getElem (by omega)]
   exact List.getElem_mem _
  have hx:=hm _ hmem
  have e:sumW l1 (n:Int) (i + 1)=sumW l1 (n:Int) i + ((l1.getD i z45).f1.length:Int):=by
   show wrap64 _=_
   exact wrap_ok _ (by omega) (by omega)
  rw [e]
  refine ⟨by omega,by omega,fun j hj => ?_⟩
  by_cases hji:j=i
  · subst hji;omega
  · have:=c j (by omega);omega
theorem smallV_true {l0:List Int} {l1:List S45} (hm:Meek l1) (hn:l0.length ≤ 140737488355328) (h:smallV l0 l1=true):l0.length ≤ 8000∧l1.length ≤ 65∧∀ x ∈ l1,x.f1.length ≤ 8000:=by
 unfold smallV at h
 rw [Bool.and_eq_true,decide_eq_true_eq,decide_eq_true_eq] at h
 obtain ⟨a,b,c⟩:=sumW_ge l1 hm l0.length hn l1.length (Nat.le_refl _) h.2
 refine ⟨by omega,h.2,fun x hx => ?_⟩
 obtain ⟨i,hi,rfl⟩:=List.mem_iff_getElem.1 hx
 have:=c i hi
 rw [List.getD_eq_getElem?_getD,List.getElem?_eq_getElem hi] at this
 have e:((some l1[i]).getD z45)=l1[i]:=rfl
 rw [e] at this
 omega
theorem appL_nil (l0:List Int) (l1:List S45) (r:List Int):(appL l0 l1 r).2.1=[]:=by
 unfold appL
 split
 · split <;> rfl
 · rfl
theorem appB_len (X:List Int) (a:Nat) (code:List Int) (hc:1 ≤ code.length) (h:a + code.length ≤ X.length):(appB X a code).length=X.length:=by
 have hrl:=appRest_len a X.length code hc h
 have k1:(splice X a [0]).length=X.length:=splice_length _ _ _ (by simp;omega)
 have k2:(splice (splice X a [0]) (a + 1) (appRest a X.length code)).length=X.length:=by rw [splice_length _ _ _ (by omega)];exact k1
 unfold appB
 rw [splice_length _ _ _ (by simp;omega)]
 exact k2
end Go.Proofs.Ytfpdmlhknddffaa.Dk
end
section
namespace Go.Proofs.Ytfpdmlhknddffaa.Dk
open Go.RowKit Go.Proofs.YtfpdmlhknddffaaW.PrintWords Go.Proofs.YtfpdmlhknddffaaW.PrintLast Go.Proofs.YtfpdmlhknddffaaW.PrintMore
set_option linter.unusedVariables false
set_option linter.unusedSimpArgs false
theorem take_seg {b c:List Int} {m i j:Nat} (h:b.take m=c.take m) (hj:j ≤ m):(b.take j).drop i=(c.take j).drop i:=by
 have e:∀ l:List Int,l.take j=(l.take m).take j:=fun l=>by rw [List.take_take,Nat.min_eq_left hj]
 rw [e b,e c,h]
theorem take_at {b c:List Int} {m i:Nat} (h:b.take m=c.take m) (hi:i < m):b.getD i 0=c.getD i 0:=by
 have e:∀ l:List Int,l.getD i 0=(l.take m).getD i 0:=fun l=>by rw [List.getD_eq_getElem?_getD,List.getD_eq_getElem?_getD,List.getElem?_take_of_lt hi]
 rw [e b,e c,h]
theorem recAt_congr {b c:List Int} {m k at_:Nat} (h:b.take m=c.take m) (hl:b.length=c.length) {x:List Int × Nat} (hx:recAt b k at_=some x) (hm:x.2 ≤ m):recAt c k at_=some x:=by
 have h14:=recAt_lt hx
 have hn:numAt b at_=numAt c at_:=by
  unfold numAt
  rw [take_at h (by omega),take_at h (by omega)]
 unfold recAt at hx
 split at hx
 · rename_i hc
   injection hx with hx
   subst hx
   simp only at hm h14
   unfold recAt
   have hs1:=take_seg (i:=at_ + 13) h hm
   have hs2:=take_seg (i:=at_) h hm
   have he:recEq c k at_ (numAt b at_).toNat=true:=by
    rw [← hc.2.2.2.2]
    unfold recEq
    rw [hs1,hs2]
   rw [← hn,if_pos ⟨by omega,hc.2.1,hc.2.2.1,by omega,he⟩,hs1]
 · cases hx
end Go.Proofs.Ytfpdmlhknddffaa.Dk
end
section
namespace Go.Proofs.Ytfpdmlhknddffaa.Dk
open Go.RowKit Go.Proofs.YtfpdmlhknddffaaW.PrintWords Go.Proofs.YtfpdmlhknddffaaW.PrintLast Go.Proofs.YtfpdmlhknddffaaW.PrintMore
set_option linter.unusedVariables false
set_option linter.unusedSimpArgs false
theorem appB_eq (X:List Int) (a:Nat) (tail:List Int) (h:a + (82 :: tail).length ≤ X.length):appB X a (82 :: tail)=X.take a ++ (82 :: tail ++ (if a + (82 :: tail).length < X.length then 0 :: X.drop (a + (82 :: tail).length + 1) else [])):=by
 simp only [List.length_cons] at h ⊢
 have hta:(X.take a).length=a:=by rw [List.length_take];omega
 have e1:splice X a [0]=X.take a ++ (0 :: X.drop (a + 1)):=rfl
 have t1:∀ rest:List Int,a + 1 + rest.length ≤ X.length→splice (splice X a [0]) (a + 1) rest=X.take a ++ (0 :: (rest ++ X.drop (a + 1 + rest.length))):=by
  intro rest hr
  rw [e1]
  unfold splice
  have q1:(X.take a ++ (0 :: X.drop (a + 1))).take (a + 1)=X.take a ++ [0]:=by
   rw [List.take_append,hta,List.take_of_length_le (by omega)]
   have:a + 1 - a=1:=by omega
   rw [this]
   rfl
  have q2:(X.take a ++ (0 :: X.drop (a + 1))).drop (a + 1 + rest.length)=X.drop (a + 1 + rest.length):=by
   rw [List.drop_append,hta,List.drop_eq_nil_of_le (by omega),List.nil_append]
   have:a + 1 + rest.length - a=rest.length + 1:=by omega
   rw [this,List.drop_succ_cons,List.drop_drop]
   try rfl
  rw [q1,q2]
  simp
 have t2:∀ Y:List Int,splice (X.take a ++ (0 :: Y)) a [82]=X.take a ++ (82 :: Y):=by
  intro Y
  unfold splice
  rw [List.take_append,hta,List.take_of_length_le (by omega),Nat.sub_self,List.take_zero,List.append_nil,List.drop_append,hta,List.drop_eq_nil_of_le (by simp;omega)]
  have:a + [(82:Int)].length - a=1:=by simp
  rw [this]
  rfl
 unfold appB appRest
 simp only [List.length_cons,List.drop_succ_cons,List.drop_zero]
 by_cases hlt:a + (tail.length + 1) < X.length
 · rw [if_pos hlt,if_pos hlt,t1 _ (by simp;omega),t2]
   have e:a + 1 + (tail ++ [(0:Int)]).length=a + (tail.length + 1) + 1:=by simp;omega
   rw [e]
   simp
 · rw [if_neg hlt,if_neg hlt,t1 _ (by omega),t2]
   have e:X.drop (a + 1 + tail.length)=[]:=List.drop_eq_nil_of_le (by omega)
   rw [e]
   simp
theorem encL_cons (r:List Int) (k:Int):encL r k=82 :: (headL r k ++ numL 8 (sumS (strOfNums (headL r k) ++ strOfNums r)) ++ r):=by
 unfold encL
 simp
theorem recAt_mark {b:List Int} (hb:∀ x ∈ b,0 ≤ x∧x ≤ 255) {k at_:Nat} {x:List Int × Nat} (h:recAt b k at_=some x):b.getD at_ 0=82:=by
 unfold recAt at h
 split at h
 · rename_i hc
   have he:=hc.2.2.2.2
   rw [recEq_iff hb,decide_eq_true_eq] at he
   have h0:=congrArg (fun l:List Int=>l.getD 0 0) he
   have h1:((b.take (at_ + 13 + (numAt b at_).toNat)).drop at_).getD 0 0=b.getD at_ 0:=by
    rw [List.getD_eq_getElem?_getD,List.getElem?_drop,List.getElem?_take_of_lt (by omega),List.getD_eq_getElem?_getD]
    rfl
   rw [h1,encL_cons] at h0
   exact h0.symm
 · cases h
theorem isRecs_app {b c:List Int} {m:Nat} (h:b.take m=c.take m) (hl:b.length=c.length):∀ (L M:List (List Int × Nat)) (k at_:Nat),IsRecs b k at_ L→endN L at_ ≤ m→(∀ x ∈ L,x.2 ≤ m)→IsRecs c (k + L.length) (endN L at_) M→IsRecs c k at_ (L ++ M):=by
 intro L
 induction L with
 | nil=>intro M k at_ _ _ _ hM;simpa [endN] using hM
 | cons x L ih =>
  intro M k at_ hL he hx hM
  rw [endN_cons] at he hM
  refine ⟨recAt_congr h hl hL.1 (hx x (by simp)),ih M _ _ hL.2 he (fun y hy=>hx y (by simp [hy])) ?_⟩
  have e:k + (x :: L).length=k + 1 + L.length:=by simp;omega
  rw [← e]
  exact hM
theorem ends_le {b:List Int}:∀ (L:List (List Int × Nat)) (k at_:Nat),IsRecs b k at_ L→∀ x ∈ L,x.2 ≤ endN L at_:=by
 intro L
 induction L with
 | nil=>intro _ _ _ x hx;simp at hx
 | cons y L ih =>
  intro k at_ hL x hx
  rw [endN_cons]
  rcases List.mem_cons.1 hx with rfl|hx
  · cases L with
    | nil=>simp [endN]
    | cons z L =>
     have h1:=ih _ _ hL.2 z (by simp)
     have h2:=recAt_lt hL.2.1
     omega
  · exact ih _ _ hL.2 x hx
theorem recAt_new {b:List Int} {k a:Nat} {r u v:List Int} (hb:b=u ++ (encL r (k:Int) ++ v)) (hu:u.length=a) (h0:0 < r.length) (h4:r.length ≤ 4096) (hk:k < 65536) (hrng:∀ x ∈ b,0 ≤ x∧x ≤ 255):recAt b k a=some (r,a + 13 + r.length):=by
 have hcl:=encL_length r (k:Int)
 have hbl:b.length=a + (13 + r.length) + v.length:=by rw [hb];simp [hu,hcl];omega
 have hget:∀ i,i < 13 + r.length→b.getD (a + i) 0=(encL r (k:Int)).getD i 0:=by
  intro i hi
  rw [List.getD_eq_getElem?_getD,List.getD_eq_getElem?_getD,hb,List.getElem?_append_right (by omega),List.getElem?_append_left (by omega),hu]
  congr 2
  omega
 have hhd:=headL_eq r (k:Int) (by omega) (by omega) (by omega)
 have g1:b.getD (a + 1) 0=((r.length:Int) / 256) % 256:=by rw [hget 1 (by omega),encL_cons,hhd];rfl
 have g2:b.getD (a + 2) 0=(r.length:Int) % 256:=by rw [hget 2 (by omega),encL_cons,hhd];rfl
 have en:=numAt_eq (byte_at hrng (a + 1)) (byte_at hrng (a + 2))
 have hn:numAt b a=((r.length:Nat):Int):=by rw [en,g1,g2];omega
 have htk:b.take (a + 13 + r.length)=u ++ encL r (k:Int):=by
  rw [hb,← List.append_assoc,List.take_append_of_le_length (by rw [List.length_append,hu,hcl];omega),List.take_of_length_le (by rw [List.length_append,hu,hcl];omega)]
 have hs2:(b.take (a + 13 + r.length)).drop a=encL r (k:Int):=by rw [htk,← hu,List.drop_left]
 have hs1:(b.take (a + 13 + r.length)).drop (a + 13)=r:=by
  rw [htk]
  have e:u ++ encL r (k:Int)=(u ++ ([82] ++ headL r (k:Int) ++ numL 8 (sumS (strOfNums (headL r (k:Int)) ++ strOfNums r)))) ++ r:=by unfold encL;simp
  have hl2:(u ++ ([82] ++ headL r (k:Int) ++ numL 8 (sumS (strOfNums (headL r (k:Int)) ++ strOfNums r)))).length=a + 13:=by simp [hu,headL_length,numL_length]
  rw [e,← hl2,List.drop_left]
 have he:recEq b k a r.length=true:=by
  rw [recEq_iff hrng,hs1,hs2]
  simp
 have:=recAt_some_of hn (by omega) h0 h4 (by omega) he
 rw [hs1] at this
 exact this
theorem recs_app {l0:List Int} {l1:List S45} (hv:validB l0 l1=true) (hb:Byt l0 l1) (r:List Int) (hr:∀ x ∈ r,0 ≤ x∧x ≤ 255) (h0:r.length ≠ 0) (h4:r.length ≤ 4096) (hfit:endN (jrecs l0 l1) 0 + 13 + r.length ≤ l0.length) :
 (appL l0 l1 r).2.2=0∧(appL l0 l1 r).1.length=l0.length∧(∀ x ∈ (appL l0 l1 r).1,0 ≤ x∧x ≤ 255)∧(appL l0 l1 r).1.take (endN (jrecs l0 l1) 0)=(syncL l0 l1).take (endN (jrecs l0 l1) 0) ∧
  jrecs (appL l0 l1 r).1 []=jrecs l0 l1 ++ [(r,endN (jrecs l0 l1) 0 + 13 + r.length)]:=by
 have hl0:=valid_len hv
 have hsl:=sync_len l0 l1 hv
 obtain ⟨f1,f2,f3,f4⟩:=jrecs_facts (l0:=l0) (l1:=l1)
 have hIs:IsRecs (syncL l0 l1) 0 0 (jrecs l0 l1):=by unfold jrecs;rw [if_pos hv];exact isRecs_recs _
 have hsr:=sync_rng l0 l1 hb
 unfold appL
 rw [if_pos ⟨hv,h0⟩,if_neg (by omega)]
 obtain ⟨L,hL⟩:∃ L,L=jrecs l0 l1:=⟨_,rfl⟩
 rw [← hL] at hfit f1 f2 f3 hIs ⊢
 obtain ⟨X,hX⟩:∃ X,X=syncL l0 l1:=⟨_,rfl⟩
 rw [← hX] at hsl hIs hsr ⊢
 obtain ⟨a,ha⟩:∃ a,a=endN L 0:=⟨_,rfl⟩
 rw [← ha] at hfit f1 f2 f3 ⊢
 have hcl:=encL_length r (L.length:Int)
 have heq:=appB_eq X a (headL r (L.length:Int) ++ numL 8 (sumS (strOfNums (headL r (L.length:Int)) ++ strOfNums r)) ++ r) (by rw [← encL_cons,hcl];omega)
 rw [← encL_cons,hcl] at heq
 obtain ⟨v,hvv⟩:∃ v,v=(if a + (13 + r.length) < X.length then 0 :: X.drop (a + (13 + r.length) + 1) else []):=⟨_,rfl⟩
 rw [← hvv] at heq
 obtain ⟨Y,hY⟩:∃ Y,Y=appB X a (encL r (L.length:Int)):=⟨_,rfl⟩
 rw [← hY] at heq ⊢
 have hlen:Y.length=X.length:=by rw [hY];exact appB_len X a _ (by omega) (by omega)
 have hta:(X.take a).length=a:=by rw [List.length_take];omega
 have htake:Y.take a=X.take a:=by rw [heq,List.take_append_of_le_length (by omega),List.take_of_length_le (by omega)]
 have hrng:∀ x ∈ Y,0 ≤ x∧x ≤ 255:=by
  intro x hx
  rw [heq] at hx
  simp only [List.mem_append] at hx
  rcases hx with h|h|h
  · exact hsr x (List.mem_of_mem_take h)
  · exact encL_rng r _ hr x h
  · rw [hvv] at h
    split at h
    · rcases List.mem_cons.1 h with rfl|h
      · omega
      · exact hsr x (List.mem_of_mem_drop h)
    · simp at h
 refine ⟨rfl,by show Y.length=_;omega,hrng,htake,?_⟩
 have hnew:=recAt_new (k:=L.length) heq hta (by omega) h4 (by omega) hrng
 have hnone:recAt Y (L.length + 1) (a + 13 + r.length)=none:=by
  cases hz:recAt Y (L.length + 1) (a + 13 + r.length) with
  | none=>rfl
  | some z =>
   exfalso
   have hm:=recAt_mark hrng hz
   have h14:=recAt_lt hz
   have hlt:a + (13 + r.length) < X.length:=by omega
   rw [if_pos hlt] at hvv
   rw [heq,List.getD_eq_getElem?_getD,List.getElem?_append_right (by omega),List.getElem?_append_right (by omega),hta,hcl,hvv] at hm
   have e:a + 13 + r.length - a - (13 + r.length)=0:=by omega
   rw [e] at hm
   simp at hm
 have hIs2:IsRecs Y 0 0 (L ++ [(r,a + 13 + r.length)]):=by
  refine isRecs_app (m:=a) htake.symm hlen.symm L _ 0 0 hIs (by omega) (fun x hx=>by have:=ends_le L 0 0 hIs x hx;omega) ?_
  rw [← ha,Nat.zero_add]
  exact ⟨hnew,hnone⟩
 show jrecs Y []=_
 unfold jrecs
 rw [if_pos (valid_nil (X:=Y) (by omega)),sync_nil Y (by omega)]
 exact isRecs_uniq Y _ _ 0 0 (isRecs_recs Y) hIs2
end Go.Proofs.Ytfpdmlhknddffaa.Dk
end
section
namespace Go.Proofs.Ytfpdmlhknddffaa.Dk
open Go.RowKit Go.Proofs.YtfpdmlhknddffaaW.PrintWords Go.Proofs.YtfpdmlhknddffaaW.PrintLast Go.Proofs.YtfpdmlhknddffaaW.PrintMore
attribute [local go_sem] max2_int min2_int max_two min_two max_three min_three max_four min_four
set_option linter.unusedVariables false
set_option linter.unusedSimpArgs false
def rd_L1 (xs:List (List Int)) (i:Int):(List Int):=xs.getD i.toNat ([]:List Int)
theorem at_L1 {w:World} {A:Option Addr} {n:Nat} {xs:List (List Int)} (h:Kd.C (Kd.slice 5 (Kd.int .u8)) w A n xs) (i:Int) (h0:0 ≤ i) (h1:i < n):∃ ad A0 c0,A=some ad∧w.cell? (ad.add i.toNat)=some (.slice A0 (rd_L1 xs i).length c0)∧(rd_L1 xs i).length ≤ c0∧(Kd.int .u8).C w A0 (rd_L1 xs i).length (rd_L1 xs i):=by
 obtain ⟨ad,c,e,_,hK,hc0⟩:=Kd.C_get h ([]:List Int) i h0 h1
 have hc:∀ j u,c[j]? = some u→w.cell? (ad.add (i.toNat * 1 + j))=some u:=hc0
 obtain ⟨A0,c0,rfl,l0,g0⟩:=hK
 exact ⟨ad,A0,c0,e,by have hq:=hc 0 _ rfl;rwa [Nat.mul_one,Nat.add_zero] at hq,l0,g0⟩
end Go.Proofs.Ytfpdmlhknddffaa.Dk
end
section
namespace Go.Proofs.Ytfpdmlhknddffaa.Dk
open Go.RowKit Go.Proofs.YtfpdmlhknddffaaW.PrintWords Go.Proofs.YtfpdmlhknddffaaW.PrintLast Go.Proofs.YtfpdmlhknddffaaW.PrintMore
attribute [local go_sem] field25 field25b max2_int min2_int max_two min_two max_three min_three max_four min_four
set_option linter.unusedVariables false
set_option linter.unusedSimpArgs false
def wageofficelaw43_appended.f (k:Nat) (l0_0:List Int) (l0_1:List (S45)) (l1:List (List Int)) (l2:List Int):Option (Bool):=(journal_Records.f l0_0 l0_1).bind fun bt103=>(if (bt103.1.length:Int)=(wrap64 ((l1.length:Int) + 1)) then (if 0 ≤ (l1.length:Int) then (if (l1.length:Int) ≤ (bt103.1.length:Int) then ((wageofficeref43_SameAll.f k (bt103.1.take ((l1.length:Int):Int).toNat) l1).bind fun t111=>(if t111=true then (if (l1.length:Int) < (bt103.1.length:Int) then ((wageofficeref43_Same.f k (rd_L1 bt103.1 (l1.length:Int)) l2).bind fun t113=>(some t113)) else (none)) else (some false))) else (none)) else (none)) else (some false))
set_option maxHeartbeats 8000000 in
set_option maxRecDepth 100000 in
theorem wageofficelaw43_appended.calls (k:Nat) (A0_0:Option Addr) (c0_0:Nat) (l0_0:List Int) (A0_1:Option Addr) (c0_1:Nat) (l0_1:List (S45)) (A1:Option Addr) (c1:Nat) (l1:List (List Int)) (A2:Option Addr) (c2:Nat) (l2:List Int) (r:Bool) (w:World) (hr0_0:Kd.C (Kd.int .u8) w A0_0 l0_0.length l0_0) (hc0_0:l0_0.length ≤ c0_0) (hr0_1:Kd.C k45 w A0_1 l0_1.length l0_1) (hc0_1:l0_1.length ≤ c0_1) (hr1:Kd.C (Kd.slice 5 (Kd.int .u8)) w A1 l1.length l1) (hc1:l1.length ≤ c1) (hr2:Kd.C (Kd.int .u8) w A2 l2.length l2) (hc2:l2.length ≤ c2) (h:wageofficelaw43_appended.f k l0_0 l0_1 l1 l2=some r) :
 Calls Try.prog 40 #[.agg #[.slice A0_0 l0_0.length c0_0,.slice A0_1 l0_1.length c0_1],.slice A1 l1.length c1,.slice A2 l2.length c2] w fun e w'=>e=.returned (.bool r)∧Below w.heap.size w w':=by
 have hu25:=Try.underlying25
 have HR0_0:=Aside0.mk hr0_0
 have HC0_0:=Aside0.mk hc0_0
 clear hr0_0 hc0_0
 have HR0_1:=Aside0.mk hr0_1
 have HC0_1:=Aside0.mk hc0_1
 clear hr0_1 hc0_1
 have HR1:=Aside0.mk hr1
 have HC1:=Aside0.mk hc1
 clear hr1 hc1
 have HR2:=Aside0.mk hr2
 have HC2:=Aside0.mk hc2
 clear hr2 hc2
 have HB:=Aside0.mk (Below.refl w.heap.size w)
 have H:((journal_Records.f l0_0 l0_1).bind fun bt103=>(if (bt103.1.length:Int)=(wrap64 ((l1.length:Int) + 1)) then (if 0 ≤ (l1.length:Int) then (if (l1.length:Int) ≤ (bt103.1.length:Int) then ((wageofficeref43_SameAll.f k (bt103.1.take ((l1.length:Int):Int).toNat) l1).bind fun t111=>(if t111=true then (if (l1.length:Int) < (bt103.1.length:Int) then ((wageofficeref43_Same.f k (rd_L1 bt103.1 (l1.length:Int)) l2).bind fun t113=>(some t113)) else (none)) else (some false))) else (none)) else (none)) else (some false)))=some r:=h
 clear h
 replace H:=Option.bind_eq_some_iff.mp H
 obtain ⟨⟨t103,t106⟩,A40,H⟩:=H
 replace H:(if (t103.length:Int)=(wrap64 ((l1.length:Int) + 1)) then (if 0 ≤ (l1.length:Int) then (if (l1.length:Int) ≤ (t103.length:Int) then ((wageofficeref43_SameAll.f k (t103.take ((l1.length:Int):Int).toNat) l1).bind fun t111=>(if t111=true then (if (l1.length:Int) < (t103.length:Int) then ((wageofficeref43_Same.f k (rd_L1 t103 (l1.length:Int)) l2).bind fun t113=>(some t113)) else (none)) else (some false))) else (none)) else (none)) else (some false))=some r:=H
 have A4:=Aside0.mk A40
 clear A40
 by_cases c5:(t103.length:Int)=(wrap64 ((l1.length:Int) + 1))
 · rw [if_pos c5] at H
   have c5b0:((t103.length:Int) == (wrap64 ((l1.length:Int) + 1)))=true:=beq_iff_eq.mpr c5
   have c5b1:((t103.length:Int) != (wrap64 ((l1.length:Int) + 1)))=false:=bne_eq_false_iff_eq.mpr c5
   clear c5
   by_cases c6:0 ≤ (l1.length:Int)
   · rw [if_pos c6] at H
     have c6b0:=eq_true c6
     have c6b1:decide (0 ≤ (l1.length:Int))=true:=decide_eq_true c6
     clear c6
     by_cases c7:(l1.length:Int) ≤ (t103.length:Int)
     · rw [if_pos c7] at H
       have c7b0:=eq_true c7
       have c7b1:decide ((l1.length:Int) ≤ (t103.length:Int))=true:=decide_eq_true c7
       clear c7
       obtain ⟨y107,hy107⟩:∃ y_:List (List Int),y_=(t103.take ((l1.length:Int):Int).toNat):=⟨_,rfl⟩
       replace H:((wageofficeref43_SameAll.f k y107 l1).bind fun t111=>(if t111=true then (if (l1.length:Int) < (t103.length:Int) then ((wageofficeref43_Same.f k (rd_L1 t103 (l1.length:Int)) l2).bind fun t113=>(some t113)) else (none)) else (some false)))=some r:=by first|(rw [hy107];with_reducible exact H)|(have H2_:=(Option.bind_some _ _).symm.trans H;rw [hy107];with_reducible exact H2_)|(have H2_:=(Option.bind_some _ _).symm.trans H;with_reducible exact H2_)|with_reducible exact H|(rw [hy107];exact H)|exact H
       have Ny107:=Aside0.mk hy107
       clear hy107
       replace H:=Option.bind_eq_some_iff.mp H
       obtain ⟨t111,A80,H⟩:=H
       replace H:(if t111=true then (if (l1.length:Int) < (t103.length:Int) then ((wageofficeref43_Same.f k (rd_L1 t103 (l1.length:Int)) l2).bind fun t113=>(some t113)) else (none)) else (some false))=some r:=H
       have A8:=Aside0.mk A80
       clear A80
       by_cases c9:t111=true
       · subst c9
         have H1:(if (l1.length:Int) < (t103.length:Int) then ((wageofficeref43_Same.f k (rd_L1 t103 (l1.length:Int)) l2).bind fun t113=>(some t113)) else (none))=some r:=by rw [if_pos rfl] at H;exact H
         clear H
         have H:=H1
         clear H1
         by_cases c10:(l1.length:Int) < (t103.length:Int)
         · rw [if_pos c10] at H
           have c10b0:decide ((l1.length:Int) < (t103.length:Int))=true:=decide_eq_true c10
           have c10b1:decide (l1.length < t103.length)=true:=decide_eq_true (Int.ofNat_lt.mp c10)
           clear c10
           replace H:=Option.bind_eq_some_iff.mp H
           obtain ⟨t113,A110,H⟩:=H
           replace H:(some t113)=some r:=H
           have A11:=Aside0.mk A110
           clear A110
           obtain rfl:=Option.some.inj H
           go_enter Try.func40,Try.ntmps40
           go_wp2_with (first|((with_reducible refine gate_dst (N:=3) rfl ?_);(try (refine gate_guard (by rfl) ?_;dsimp only));refine box_event ?hg (N:=3) ?hd (cs:=#[.slice A0_0 l0_0.length c0_0,.slice A0_1 l0_1.length c0_1]) (t:=25) ?hr ?_;(case hd=>rfl);(case hg=>rfl);(case hr=>first|(go_simp;done)|(go_simp;rfl));intro gb102 hg w12 hbox hb;have n0_:=Aside0.mk (below_step (by repeat (first|(with_reducible first|exact HB.out|apply below_alloc|apply pw_below_drewN|apply below_drew1)|exact HB.out)) hb);have n1_:=Aside0.mk (hbox);have n2_:=Aside0.mk ((by rw [hg];exact (below_size (by repeat (first|(with_reducible first|exact HB.out|apply below_alloc|apply pw_below_drewN|apply below_drew1)|exact HB.out))):w.heap.size ≤ gb102));have n3_:=Aside0.mk ((by rw [hg];exact (below_size (by repeat (first|(with_reducible first|exact HB.out|apply below_alloc|apply pw_below_drewN|apply below_drew1)|exact HB.out))):w.heap.size ≤ gb102));clear HB;have HB:=n0_;have BK102:=n1_;have GW102:=n2_;have GE102:=n3_;clear n0_ n1_ n2_ n3_;clear hb hbox hg;have hcz13_0:w12.cell? ⟨gb102,0,none⟩=some (.slice A0_0 l0_0.length c0_0):=(blk_cell BK102.out 0).trans rfl;have hcz13_1:w12.cell? ⟨gb102,1,none⟩=some (.slice A0_1 l0_1.length c0_1):=(blk_cell BK102.out 1).trans rfl;have hfz13_0:=blk_frozen BK102.out 0;have hfz13_1:=blk_frozen BK102.out 1)|((with_reducible refine gate_callee (f:=36) rfl ?_);refine goesL_ (some 11) rfl rfl Try.func36 (by kernel_rfl) rfl #[.agg #[.slice A0_0 l0_0.length c0_0,.slice A0_1 l0_1.length c0_1]] rfl (by (try simp only [List.map_toArray,List.map_cons,List.map_nil]);first|done|rfl|(simp only [List.length_drop,List.length_take];rfl)) ?_;(with_reducible refine (journal_Records.calls _ _ l0_0 _ _ l0_1 t103 t106 _ ?side1 ?side2 ?side3 ?side4 A4.out).mono ?_);(case side1=>repeat (first|exact (Kd.C_below HR0_0.out HB.out)|(with_reducible refine Kd.C_alloc ?_ _)|(with_reducible refine Kd.C_drewN ?_ _)|(with_reducible refine Kd.C_drew ?_)));(case side2=>exact HC0_0.out);(case side3=>repeat (first|exact (Kd.C_below HR0_1.out HB.out)|(with_reducible refine Kd.C_alloc ?_ _)|(with_reducible refine Kd.C_drewN ?_ _)|(with_reducible refine Kd.C_drew ?_)));(case side4=>exact HC0_1.out);rintro e w14 ⟨v104,rfl,ho0,hb⟩;refine ⟨_,rfl,?_⟩;have n0_:=Aside0.mk (Kd.S_lower ho0 (below_size (by repeat (first|(with_reducible first|exact HB.out|apply below_alloc|apply pw_below_drewN|apply below_drew1|refine below_set ?_ GE102.out)|exact HB.out))));have n1_:=Aside0.mk (blk_below (g:=gb102) (o:=.cells #[.slice A0_0 l0_0.length c0_0,.slice A0_1 l0_1.length c0_1] 25 (0,0)) (by (with_reducible repeat (first|refine blk_drewN ?_ _|refine blk_drew ?_|refine blk_alloc ?_ _));exact BK102.out) hb);have n2_:=Aside0.mk (below_step (by repeat (first|(with_reducible first|exact HB.out|apply below_alloc|apply pw_below_drewN|apply below_drew1|refine below_set ?_ GE102.out)|exact HB.out)) hb);clear BK102;clear HB;have HO105:=n0_;have BK102:=n1_;have HB:=n2_;clear n0_ n1_ n2_;(try clear hb);(try clear hb2);(try clear hk);(try clear hi);(try clear ho0);obtain ⟨Ao15,co15,eo15⟩:=Kd.S_slice HO105.out;subst eo15;have q16:((l1.length:Int):Int) ≤ ((t103.length:Int):Int):=of_decide_eq_true (by first|(with_reducible assumption)|assumption);obtain ⟨i016,hi016,_,hsz16,_⟩:=info_parts info22;have hroom16:t103.length ≤ co15:=(Kd.S_reads' HO105.out).2.1;have hC16:Kd.C (Kd.slice 5 (Kd.int .u8)) _ Ao15 t103.length t103:=(Kd.S_reads' HO105.out).2.2;have hcut16:=cut_to (P:=Try.prog) 49 22 .i64 Try.underlying49 hi016 Ao15 t103.length co15 (l1.length:Int) (of_decide_eq_true (by first|(with_reducible assumption)|assumption)) q16 hroom16;have hr16:=Kd.C_take (m:=((l1.length:Int):Int).toNat) hC16 (by omega);have hy16:y107.length=((l1.length:Int):Int).toNat:=(by rw [Ny107.out,List.length_take];omega);rw [← Ny107.out] at hr16;rw [← hy16] at hcut16;have HR110:=Aside0.mk hr16;have HC110:=Aside0.mk (show y107.length ≤ co15 from by omega);clear hr16 hC16 hroom16 hi016 hsz16;have KY16:=Aside0.mk hy16;clear hy16;have KL16:=Aside0.mk (show ((l1.length:Int):Int).toNat ≤ t103.length from by omega);replace q16:=eq_true q16)|(go_at_call 39;(with_reducible refine (wageofficeref43_SameAll.calls k _ _ y107 _ _ l1 true _ ?side1 ?side2 ?side3 ?side4 A8.out).mono ?_);(case side1=>repeat (first|exact (by repeat (first|(with_reducible exact HR110.out)|(with_reducible refine Kd.C_alloc ?_ _)|(with_reducible refine Kd.C_drewN ?_ _)|(with_reducible refine Kd.C_drew ?_)|exact HR110.out))|(with_reducible refine Kd.C_alloc ?_ _)|(with_reducible refine Kd.C_drewN ?_ _)|(with_reducible refine Kd.C_drew ?_)));(case side2=>exact HC110.out);(case side3=>repeat (first|exact (Kd.C_below HR1.out HB.out)|(with_reducible refine Kd.C_alloc ?_ _)|(with_reducible refine Kd.C_drewN ?_ _)|(with_reducible refine Kd.C_drew ?_)));(case side4=>exact HC1.out);rintro e w' ⟨rfl,⟨nd,rfl⟩⟩;have p112:0 ≤ ((l1.length:Int):Int):=of_decide_eq_true (by first|(with_reducible assumption)|assumption);have q112:(l1.length:Int) < (t103.length:Int):=of_decide_eq_true (by first|(with_reducible assumption)|assumption);obtain ⟨ad112,A112_0,c112_0,e112,hx112_0,hl112_0,hi112_0⟩:=at_L1 (Kd.S_reads' HO105.out).2.2 (l1.length:Int) p112 q112;cases e112;obtain ⟨ce112,hce112,hMe112,hcc112⟩:=Kd.S_get HO105.out [] (l1.length:Int) p112 (by first|exact q112|exact of_decide_eq_true (by first|(with_reducible assumption)|assumption)|(have e_:=(Kd.S_reads' HO105.out).1;omega));obtain ⟨ve112_0,rfl,ge112_0⟩:=hMe112;have hv112_0:=hcc112 0 _ rfl;rw [Nat.add_zero,show ((Kd.slice 5 (Kd.int .u8))).sz=1 from rfl,Nat.mul_one] at hv112_0;replace hv112_0:=Option.some.inj (hv112_0.symm.trans hx112_0);rw [hv112_0] at ge112_0;have HL112_0:=Aside0.mk (show Kd.R (Kd.int .u8) 5 _ _ _ _ (rd_L1 t103 (l1.length:Int)) from ge112_0);clear hv112_0 ge112_0;clear hcc112 hce112;have HR112_0:=Aside0.mk hi112_0;have HC112_0:=Aside0.mk hl112_0;clear hi112_0 hl112_0;(try simp only [Go.IntWalk.toNatUp] at hx112_0);replace p112:=eq_true p112;replace q112:=eq_true q112)|(go_at_call 41;(with_reducible refine (wageofficeref43_Same.calls k _ _ (rd_L1 t103 (l1.length:Int)) _ _ l2 t113 _ ?side1 ?side2 ?side3 ?side4 A11.out).mono ?_);(case side1=>repeat (first|exact (by repeat (first|(with_reducible exact HR112_0.out)|(with_reducible refine Kd.C_alloc ?_ _)|(with_reducible refine Kd.C_drewN ?_ _)|(with_reducible refine Kd.C_drew ?_)|exact HR112_0.out))|(with_reducible refine Kd.C_alloc ?_ _)|(with_reducible refine Kd.C_drewN ?_ _)|(with_reducible refine Kd.C_drew ?_)));(case side2=>exact HC112_0.out);(case side3=>repeat (first|exact (Kd.C_below HR2.out (by repeat (first|(with_reducible first|exact HB.out|apply below_alloc|apply pw_below_drewN|apply below_drew1|refine below_set ?_ GE102.out)|exact HB.out)))|(with_reducible refine Kd.C_alloc ?_ _)|(with_reducible refine Kd.C_drewN ?_ _)|(with_reducible refine Kd.C_drew ?_)));(case side4=>exact HC2.out);rintro e w' ⟨rfl,⟨nd,rfl⟩⟩))
           go_ret
           exact ⟨by first|rfl|(simp [errW_none,errW_some] <;> rfl)|(simp [*,errW_none,errW_some] <;> rfl),by repeat (first|(with_reducible first|exact HB.out|apply below_alloc|apply pw_below_drewN|apply below_drew1|refine below_set ?_ GE102.out)|exact HB.out)⟩
         · rw [if_neg c10] at H
           exact absurd H (by simp)
       · replace c9:=Bool.eq_false_iff.mpr c9
         subst c9
         have H1:(some false)=some r:=by rw [if_neg (show ¬ (false=true) by decide)] at H;exact H
         clear H
         have H:=H1
         clear H1
         obtain rfl:=Option.some.inj H
         go_enter Try.func40,Try.ntmps40
         go_wp2_with (first|((with_reducible refine gate_dst (N:=3) rfl ?_);(try (refine gate_guard (by rfl) ?_;dsimp only));refine box_event ?hg (N:=3) ?hd (cs:=#[.slice A0_0 l0_0.length c0_0,.slice A0_1 l0_1.length c0_1]) (t:=25) ?hr ?_;(case hd=>rfl);(case hg=>rfl);(case hr=>first|(go_simp;done)|(go_simp;rfl));intro gb102 hg w17 hbox hb;have n0_:=Aside0.mk (below_step (by repeat (first|(with_reducible first|exact HB.out|apply below_alloc|apply pw_below_drewN|apply below_drew1)|exact HB.out)) hb);have n1_:=Aside0.mk (hbox);have n2_:=Aside0.mk ((by rw [hg];exact (below_size (by repeat (first|(with_reducible first|exact HB.out|apply below_alloc|apply pw_below_drewN|apply below_drew1)|exact HB.out))):w.heap.size ≤ gb102));have n3_:=Aside0.mk ((by rw [hg];exact (below_size (by repeat (first|(with_reducible first|exact HB.out|apply below_alloc|apply pw_below_drewN|apply below_drew1)|exact HB.out))):w.heap.size ≤ gb102));clear HB;have HB:=n0_;have BK102:=n1_;have GW102:=n2_;have GE102:=n3_;clear n0_ n1_ n2_ n3_;clear hb hbox hg;have hcz18_0:w17.cell? ⟨gb102,0,none⟩=some (.slice A0_0 l0_0.length c0_0):=(blk_cell BK102.out 0).trans rfl;have hcz18_1:w17.cell? ⟨gb102,1,none⟩=some (.slice A0_1 l0_1.length c0_1):=(blk_cell BK102.out 1).trans rfl;have hfz18_0:=blk_frozen BK102.out 0;have hfz18_1:=blk_frozen BK102.out 1)|((with_reducible refine gate_callee (f:=36) rfl ?_);refine goesL_ (some 11) rfl rfl Try.func36 (by kernel_rfl) rfl #[.agg #[.slice A0_0 l0_0.length c0_0,.slice A0_1 l0_1.length c0_1]] rfl (by (try simp only [List.map_toArray,List.map_cons,List.map_nil]);first|done|rfl|(simp only [List.length_drop,List.length_take];rfl)) ?_;(with_reducible refine (journal_Records.calls _ _ l0_0 _ _ l0_1 t103 t106 _ ?side1 ?side2 ?side3 ?side4 A4.out).mono ?_);(case side1=>repeat (first|exact (Kd.C_below HR0_0.out HB.out)|(with_reducible refine Kd.C_alloc ?_ _)|(with_reducible refine Kd.C_drewN ?_ _)|(with_reducible refine Kd.C_drew ?_)));(case side2=>exact HC0_0.out);(case side3=>repeat (first|exact (Kd.C_below HR0_1.out HB.out)|(with_reducible refine Kd.C_alloc ?_ _)|(with_reducible refine Kd.C_drewN ?_ _)|(with_reducible refine Kd.C_drew ?_)));(case side4=>exact HC0_1.out);rintro e w19 ⟨v104,rfl,ho0,hb⟩;refine ⟨_,rfl,?_⟩;have n0_:=Aside0.mk (Kd.S_lower ho0 (below_size (by repeat (first|(with_reducible first|exact HB.out|apply below_alloc|apply pw_below_drewN|apply below_drew1|refine below_set ?_ GE102.out)|exact HB.out))));have n1_:=Aside0.mk (blk_below (g:=gb102) (o:=.cells #[.slice A0_0 l0_0.length c0_0,.slice A0_1 l0_1.length c0_1] 25 (0,0)) (by (with_reducible repeat (first|refine blk_drewN ?_ _|refine blk_drew ?_|refine blk_alloc ?_ _));exact BK102.out) hb);have n2_:=Aside0.mk (below_step (by repeat (first|(with_reducible first|exact HB.out|apply below_alloc|apply pw_below_drewN|apply below_drew1|refine below_set ?_ GE102.out)|exact HB.out)) hb);clear BK102;clear HB;have HO105:=n0_;have BK102:=n1_;have HB:=n2_;clear n0_ n1_ n2_;(try clear hb);(try clear hb2);(try clear hk);(try clear hi);(try clear ho0);obtain ⟨Ao20,co20,eo20⟩:=Kd.S_slice HO105.out;subst eo20;have q21:((l1.length:Int):Int) ≤ ((t103.length:Int):Int):=of_decide_eq_true (by first|(with_reducible assumption)|assumption);obtain ⟨i021,hi021,_,hsz21,_⟩:=info_parts info22;have hroom21:t103.length ≤ co20:=(Kd.S_reads' HO105.out).2.1;have hC21:Kd.C (Kd.slice 5 (Kd.int .u8)) _ Ao20 t103.length t103:=(Kd.S_reads' HO105.out).2.2;have hcut21:=cut_to (P:=Try.prog) 49 22 .i64 Try.underlying49 hi021 Ao20 t103.length co20 (l1.length:Int) (of_decide_eq_true (by first|(with_reducible assumption)|assumption)) q21 hroom21;have hr21:=Kd.C_take (m:=((l1.length:Int):Int).toNat) hC21 (by omega);have hy21:y107.length=((l1.length:Int):Int).toNat:=(by rw [Ny107.out,List.length_take];omega);rw [← Ny107.out] at hr21;rw [← hy21] at hcut21;have HR110:=Aside0.mk hr21;have HC110:=Aside0.mk (show y107.length ≤ co20 from by omega);clear hr21 hC21 hroom21 hi021 hsz21;have KY21:=Aside0.mk hy21;clear hy21;have KL21:=Aside0.mk (show ((l1.length:Int):Int).toNat ≤ t103.length from by omega);replace q21:=eq_true q21)|(go_at_call 39;(with_reducible refine (wageofficeref43_SameAll.calls k _ _ y107 _ _ l1 false _ ?side1 ?side2 ?side3 ?side4 A8.out).mono ?_);(case side1=>repeat (first|exact (by repeat (first|(with_reducible exact HR110.out)|(with_reducible refine Kd.C_alloc ?_ _)|(with_reducible refine Kd.C_drewN ?_ _)|(with_reducible refine Kd.C_drew ?_)|exact HR110.out))|(with_reducible refine Kd.C_alloc ?_ _)|(with_reducible refine Kd.C_drewN ?_ _)|(with_reducible refine Kd.C_drew ?_)));(case side2=>exact HC110.out);(case side3=>repeat (first|exact (Kd.C_below HR1.out HB.out)|(with_reducible refine Kd.C_alloc ?_ _)|(with_reducible refine Kd.C_drewN ?_ _)|(with_reducible refine Kd.C_drew ?_)));(case side4=>exact HC1.out);rintro e w' ⟨rfl,⟨nd,rfl⟩⟩))
         go_ret
         exact ⟨by first|rfl|(simp [errW_none,errW_some] <;> rfl)|(simp [*,errW_none,errW_some] <;> rfl),by repeat (first|(with_reducible first|exact HB.out|apply below_alloc|apply pw_below_drewN|apply below_drew1|refine below_set ?_ GE102.out)|exact HB.out)⟩
     · rw [if_neg c7] at H
       exact absurd H (by simp)
   · rw [if_neg c6] at H
     exact absurd H (by simp)
 · rw [if_neg c5] at H
   have c5b0:((t103.length:Int) == (wrap64 ((l1.length:Int) + 1)))=false:=beq_eq_false_iff_ne.mpr c5
   have c5b1:((t103.length:Int) != (wrap64 ((l1.length:Int) + 1)))=true:=bne_iff_ne.mpr c5
   obtain rfl:=Option.some.inj H
   go_enter Try.func40,Try.ntmps40
   go_wp2_with (first|((with_reducible refine gate_dst (N:=3) rfl ?_);(try (refine gate_guard (by rfl) ?_;dsimp only));refine box_event ?hg (N:=3) ?hd (cs:=#[.slice A0_0 l0_0.length c0_0,.slice A0_1 l0_1.length c0_1]) (t:=25) ?hr ?_;(case hd=>rfl);(case hg=>rfl);(case hr=>first|(go_simp;done)|(go_simp;rfl));intro gb102 hg w22 hbox hb;have n0_:=Aside0.mk (below_step (by repeat (first|(with_reducible first|exact HB.out|apply below_alloc|apply pw_below_drewN|apply below_drew1)|exact HB.out)) hb);have n1_:=Aside0.mk (hbox);have n2_:=Aside0.mk ((by rw [hg];exact (below_size (by repeat (first|(with_reducible first|exact HB.out|apply below_alloc|apply pw_below_drewN|apply below_drew1)|exact HB.out))):w.heap.size ≤ gb102));have n3_:=Aside0.mk ((by rw [hg];exact (below_size (by repeat (first|(with_reducible first|exact HB.out|apply below_alloc|apply pw_below_drewN|apply below_drew1)|exact HB.out))):w.heap.size ≤ gb102));clear HB;have HB:=n0_;have BK102:=n1_;have GW102:=n2_;have GE102:=n3_;clear n0_ n1_ n2_ n3_;clear hb hbox hg;have hcz23_0:w22.cell? ⟨gb102,0,none⟩=some (.slice A0_0 l0_0.length c0_0):=(blk_cell BK102.out 0).trans rfl;have hcz23_1:w22.cell? ⟨gb102,1,none⟩=some (.slice A0_1 l0_1.length c0_1):=(blk_cell BK102.out 1).trans rfl;have hfz23_0:=blk_frozen BK102.out 0;have hfz23_1:=blk_frozen BK102.out 1)|((with_reducible refine gate_callee (f:=36) rfl ?_);refine goesL_ (some 11) rfl rfl Try.func36 (by kernel_rfl) rfl #[.agg #[.slice A0_0 l0_0.length c0_0,.slice A0_1 l0_1.length c0_1]] rfl (by (try simp only [List.map_toArray,List.map_cons,List.map_nil]);first|done|rfl|(simp only [List.length_drop,List.length_take];rfl)) ?_;(with_reducible refine (journal_Records.calls _ _ l0_0 _ _ l0_1 t103 t106 _ ?side1 ?side2 ?side3 ?side4 A4.out).mono ?_);(case side1=>repeat (first|exact (Kd.C_below HR0_0.out HB.out)|(with_reducible refine Kd.C_alloc ?_ _)|(with_reducible refine Kd.C_drewN ?_ _)|(with_reducible refine Kd.C_drew ?_)));(case side2=>exact HC0_0.out);(case side3=>repeat (first|exact (Kd.C_below HR0_1.out HB.out)|(with_reducible refine Kd.C_alloc ?_ _)|(with_reducible refine Kd.C_drewN ?_ _)|(with_reducible refine Kd.C_drew ?_)));(case side4=>exact HC0_1.out);rintro e w24 ⟨v104,rfl,ho0,hb⟩;refine ⟨_,rfl,?_⟩;have n0_:=Aside0.mk (Kd.S_lower ho0 (below_size (by repeat (first|(with_reducible first|exact HB.out|apply below_alloc|apply pw_below_drewN|apply below_drew1|refine below_set ?_ GE102.out)|exact HB.out))));have n1_:=Aside0.mk (blk_below (g:=gb102) (o:=.cells #[.slice A0_0 l0_0.length c0_0,.slice A0_1 l0_1.length c0_1] 25 (0,0)) (by (with_reducible repeat (first|refine blk_drewN ?_ _|refine blk_drew ?_|refine blk_alloc ?_ _));exact BK102.out) hb);have n2_:=Aside0.mk (below_step (by repeat (first|(with_reducible first|exact HB.out|apply below_alloc|apply pw_below_drewN|apply below_drew1|refine below_set ?_ GE102.out)|exact HB.out)) hb);clear BK102;clear HB;have HO105:=n0_;have BK102:=n1_;have HB:=n2_;clear n0_ n1_ n2_;(try clear hb);(try clear hb2);(try clear hk);(try clear hi);(try clear ho0);obtain ⟨Ao25,co25,eo25⟩:=Kd.S_slice HO105.out;subst eo25))
   go_ret
   exact ⟨by first|rfl|(simp [errW_none,errW_some] <;> rfl)|(simp [*,errW_none,errW_some] <;> rfl),by repeat (first|(with_reducible first|exact HB.out|apply below_alloc|apply pw_below_drewN|apply below_drew1|refine below_set ?_ GE102.out)|exact HB.out)⟩
end Go.Proofs.Ytfpdmlhknddffaa.Dk
end
