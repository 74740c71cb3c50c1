/- Contracts of functions, and plain laws, that the statement's proof uses; printed and joined by programs of this session. -/
import Derived.Test.YtfpdmlhknddffaaG6
section
namespace Go.Proofs.Ytfpdmlhknddffaa.Dk
open Go.RowKit Go.Proofs.YtfpdmlhknddffaaW.PrintWords Go.Proofs.YtfpdmlhknddffaaW.PrintLast Go.Proofs.YtfpdmlhknddffaaW.PrintMore
set_option linter.unusedVariables false
set_option linter.unusedSimpArgs false
theorem rdL1_nat {xs:List (List Int)} {i:Nat} (h:i < xs.length):rd_L1 xs (i:Int)=xs[i]:=by
 unfold rd_L1;simp [List.getD,h]
theorem app_w (n:Nat) (h:n ≤ 65536):wrap64 ((n:Int) + 1)=((n + 1:Nat):Int):=by
 rw [wrap_ok _ (by omega) (by omega)]
 rfl
theorem app_no (l0:List Int) (l1:List S45) (N B:List (List Int)) (r:List Int) (e:Int) (hrec:journal_Records.f l0 l1=some (N,e)) (hB:B.length ≤ 65536) (hl:N.length ≠ B.length + 1) (k:Nat):wageofficelaw43_appended.f k l0 l1 B r=some false:=by
 unfold wageofficelaw43_appended.f
 rw [hrec,Option.bind_some]
 rw [app_w _ hB]
 dsimp only
 rw [if_neg (by omega)]
theorem app_yes (l0:List Int) (l1:List S45) (N B:List (List Int)) (r x:List Int) (e:Int) (hrec:journal_Records.f l0 l1=some (N,e)) (hB:B.length ≤ 65536) (hl:N.length=B.length + 1) (e1:rd_L1 N (B.length:Int)=x) (k:Nat):wageofficelaw43_appended.f k l0 l1 B r=(wageofficeref43_SameAll.f k (N.take B.length) B).bind fun t=>if t=true then (wageofficeref43_Same.f k x r).bind fun u=>some u else some false:=by
 unfold wageofficelaw43_appended.f
 rw [hrec,Option.bind_some]
 rw [app_w _ hB]
 dsimp only
 rw [if_pos (by omega),if_pos (by omega),if_pos (by omega),Int.toNat_natCast,e1]
 congr 1
 funext t
 rw [if_pos (show (B.length:Int) < (N.length:Int) by omega)]
theorem appended_ev (l0:List Int) (l1:List S45) (N B:List (List Int)) (r:List Int) (e:Int) (hrec:journal_Records.f l0 l1=some (N,e)) (hN:N.length ≤ 65536) (hNl:∀ x ∈ N,x.length ≤ 65536) (hB:B.length ≤ 65536):Ev (fun k=>wageofficelaw43_appended.f k l0 l1 B r) (decide (N=B ++ [r])):=by
 by_cases hl:N.length=B.length + 1
 · have hsa:=sameAll_ev (N.take B.length) B (by rw [List.length_take];omega) (fun x hx=>by have:=hNl x (List.mem_of_mem_take hx);omega)
   have hlast:N=N.take B.length ++ [N[B.length]]:=by
    rw [← List.take_succ_eq_append_getElem (by omega),List.take_of_length_le (by omega)]
   have hs:=same43_ev N[B.length] r (by have:=hNl _ (List.getElem_mem (l:=N) (n:=B.length) (by omega));omega)
   have e1:rd_L1 N (B.length:Int)=N[B.length]:=rdL1_nat (by omega)
   refine Ev.congr (f:=fun k=>(wageofficeref43_SameAll.f k (N.take B.length) B).bind fun t=>if t=true then (wageofficeref43_Same.f k N[B.length] r).bind fun u=>some u else some false) (fun k => ?_) ?_
   · exact app_yes l0 l1 N B r _ e hrec hB hl e1 k
   · by_cases hB2:N.take B.length=B
     · rw [decide_eq_true hB2] at hsa
       refine Ev.bind (f:=fun k t=>if t=true then (wageofficeref43_Same.f k N[B.length] r).bind fun u=>some u else some false) hsa ?_
       refine Ev.congr (f:=fun k=>(wageofficeref43_Same.f k N[B.length] r).bind fun u=>some u) (fun k=>by rw [if_pos rfl]) ?_
       refine ev_eq (Ev.bind (f:=fun _ u=>some u) hs (Ev.now _)) ?_
       refine decide_eq_decide.2 ⟨fun h => ?_,fun h => ?_⟩
       · rw [hlast,hB2,h]
       · rw [hlast,hB2] at h
         simpa using h
     · rw [decide_eq_false hB2] at hsa
       refine ev_eq (Ev.bind (f:=fun k t=>if t=true then (wageofficeref43_Same.f k N[B.length] r).bind fun u=>some u else some false) hsa (r:=false) (by simpa using Ev.now false)) ?_
       symm
       rw [decide_eq_false_iff_not]
       intro h
       apply hB2
       rw [h,List.take_left]
 · refine Ev.congr (f:=fun _=>some false) (fun k => ?_) (ev_eq (Ev.now false) ?_)
   · exact app_no l0 l1 N B r e hrec hB hl k
   · symm
     rw [decide_eq_false_iff_not]
     intro h
     exact hl (by rw [h];simp)
theorem crash_one {X:List Int} (h:X.length ≤ 65536) (a c:Nat) (d:List Int) (hd:a + d.length ≤ X.length) (hc:c ≤ d.length):crashL X [⟨(a:Int),d⟩] [(c:Int)]=splice X a (d.take c):=by
 have hp:isPartB (X.length:Int) (a:Int) (d.length:Int)=true:=(isPartB_iff _ _ _).2 (by omega)
 have hv:=valid_snoc X [] (a:Int) d (valid_nil h) hp (by simp)
 rw [List.nil_append] at hv
 unfold crashL
 rw [if_pos hv]
 have hk:keptN (c:Int) d.length=c:=by unfold keptN;omega
 show splice X ((a:Int)).toNat (d.take (keptN (c:Int) d.length))=_
 rw [hk,Int.toNat_natCast]
theorem recs_cut {l0:List Int} {l1:List S45} (hv:validB l0 l1=true) {Z:List Int} (hl:Z.length=l0.length) (hz:∀ x ∈ Z,0 ≤ x∧x ≤ 255) (ht:(syncL l0 l1).take (endN (jrecs l0 l1) 0)=Z.take (endN (jrecs l0 l1) 0)) (hm:Z.getD (endN (jrecs l0 l1) 0) 0 ≠ 82):jrecs Z []=jrecs l0 l1:=by
 have hl0:=valid_len hv
 have hsl:=sync_len l0 l1 hv
 have hIs:IsRecs (syncL l0 l1) 0 0 (jrecs l0 l1):=by unfold jrecs;rw [if_pos hv];exact isRecs_recs _
 have hnone:recAt Z (0 + (jrecs l0 l1).length) (endN (jrecs l0 l1) 0)=none:=by
  cases h:recAt Z (0 + (jrecs l0 l1).length) (endN (jrecs l0 l1) 0) with
  | none=>rfl
  | some x=>exact absurd (recAt_mark hz h) hm
 have h2:=isRecs_app (m:=endN (jrecs l0 l1) 0) ht (by omega) (jrecs l0 l1) [] 0 0 hIs (Nat.le_refl _) (fun x hx=>ends_le _ 0 0 hIs x hx) hnone
 rw [List.append_nil] at h2
 have e:jrecs Z []=recs Z:=by
  unfold jrecs
  rw [if_pos (valid_nil (X:=Z) (by omega)),sync_nil Z (by omega)]
 rw [e]
 exact isRecs_uniq Z _ _ 0 0 (isRecs_recs Z) h2
theorem splice_rng {X d:List Int} {a:Nat} (hX:∀ x ∈ X,0 ≤ x∧x ≤ 255) (hd:∀ x ∈ d,0 ≤ x∧x ≤ 255):∀ x ∈ splice X a d,0 ≤ x∧x ≤ 255:=fun x hx=>(splice_mem hx).elim (hX x) (hd x)
theorem splice_take {X d:List Int} {a b:Nat} (h:a ≤ b) (hb:b ≤ X.length):(splice X b d).take a=X.take a:=by
 unfold splice
 rw [List.take_append_of_le_length (by rw [List.length_take];omega),List.take_take,Nat.min_eq_left h]
theorem splice_at {X d:List Int} {a b:Nat} (h:a < b) (hb:b ≤ X.length):(splice X b d).getD a 0=X.getD a 0:=by
 unfold splice
 rw [List.getD_eq_getElem?_getD,List.getElem?_append_left (by rw [List.length_take];omega),List.getElem?_take_of_lt h,← List.getD_eq_getElem?_getD]
theorem splice_here {X:List Int} {a:Nat} {v:Int} (h:a < X.length):(splice X a [v]).getD a 0=v:=by
 unfold splice
 rw [List.getD_eq_getElem?_getD,List.getElem?_append_right (by rw [List.length_take];omega)]
 have e:a - (X.take a).length=0:=by rw [List.length_take];omega
 rw [e]
 rfl
theorem byt_of {X:List Int} (h:∀ x ∈ X,0 ≤ x∧x ≤ 255):Byt X []:=⟨h,by simp⟩
theorem j3_ev {Z:List Int} (hl:Z.length ≤ 65536) (hz:∀ x ∈ Z,0 ≤ x∧x ≤ 255) (o:List Int) (ho:∀ x ∈ o,0 ≤ x∧x ≤ 255) (hol:o.length ≤ 140737488355328):Ev (fun k=>wageofficelaw43_JournalCrash.j3 k o true (fsts (jrecs Z [])) false Z []) true:=by
 have hb:=byt_of hz
 have hA:=append_eq hb o hl hol
 by_cases hgood:(appL Z [] o).2.2=0
 · have hc:o.length ≠ 0∧o.length ≤ 4096∧endN (jrecs Z []) 0 + 13 + o.length ≤ Z.length:=by
    unfold appL at hgood
    split at hgood
    · rename_i h1
      split at hgood
      · exact absurd hgood (by decide)
      · exact ⟨h1.2,by omega,by omega⟩
    · exact absurd hgood (by decide)
   obtain ⟨q1,q2,q3,q4,q5⟩:=recs_app (valid_nil hl) hb o ho hc.1 hc.2.1 hc.2.2
   have q6:=appL_nil Z [] o
   have hD:=records_eq (l0:=(appL Z [] o).1) (l1:=[]) (byt_of q3)
   rw [q5] at hD
   have hfs:fsts (jrecs Z [] ++ [(o,endN (jrecs Z []) 0 + 13 + o.length)])=fsts (jrecs Z []) ++ [o]:=by simp [fsts]
   rw [hfs] at hD
   obtain ⟨f1,f2,f3,f4⟩:=jrecs_facts (l0:=Z) (l1:=[])
   have hap:=appended_ev (appL Z [] o).1 [] _ (fsts (jrecs Z [])) o _ hD (by simp [fsts];omega) (fun x hx=>by
    rcases List.mem_append.1 hx with hx|hx
    · have:=f4 x hx;omega
    · simp at hx;subst hx;omega) (by simp [fsts];omega)
   rw [decide_eq_true rfl] at hap
   refine Ev.step (f:=fun k=>(wageofficelaw43_appended.f k (appL Z [] o).1 [] (fsts (jrecs Z [])) o).bind fun t=>some t) (fun k => ?_) (Ev.bind (f:=fun _ t=>some t) hap (Ev.now _))
   simp only [wageofficelaw43_JournalCrash.j3]
   rw [if_neg (by decide),hA]
   simp only [Option.bind_some]
   rw [if_pos trivial,if_pos hgood,q6]
 · refine Ev.step (f:=fun _=>some true) (fun k => ?_) (Ev.now _)
   simp only [wageofficelaw43_JournalCrash.j3]
   rw [if_neg (by decide),hA]
   simp only [Option.bind_some]
   rw [if_pos trivial,if_neg hgood]
theorem j2_ev {Z:List Int} (hl:Z.length ≤ 65536) (hz:∀ x ∈ Z,0 ≤ x∧x ≤ 255) (r o:List Int) (ho:∀ x ∈ o,0 ≤ x∧x ≤ 255) (hol:o.length ≤ 140737488355328) (B:List (List Int)) (hB:B.length ≤ 65536) (h:fsts (jrecs Z [])=B∨fsts (jrecs Z [])=B ++ [r]):Ev (fun k=>wageofficelaw43_JournalCrash.j2 k r o true B Z []) true:=by
 have hD:=records_eq (l0:=Z) (l1:=[]) (byt_of hz)
 obtain ⟨f1,f2,f3,f4⟩:=jrecs_facts (l0:=Z) (l1:=[])
 have h3:=j3_ev hl hz o ho hol
 have hsa:=sameAll_ev (fsts (jrecs Z [])) B (by simp [fsts];omega) (fun x hx=>by have:=f4 x hx;omega)
 have hap:=appended_ev Z [] _ B r _ hD (by simp [fsts];omega) (fun x hx=>by have:=f4 x hx;omega) hB
 refine Ev.step (f:=fun k=>(wageofficeref43_SameAll.f k (fsts (jrecs Z [])) B).bind fun t=>if t=true then wageofficelaw43_JournalCrash.j3 k o true (fsts (jrecs Z [])) false Z [] else (wageofficelaw43_appended.f k Z [] B r).bind fun u=>wageofficelaw43_JournalCrash.j3 k o true (fsts (jrecs Z [])) (!u) Z []) (fun k => ?_) ?_
 · simp only [wageofficelaw43_JournalCrash.j2]
   rw [hD]
   rfl
 · refine Ev.bind (f:=fun k t=>if t=true then wageofficelaw43_JournalCrash.j3 k o true (fsts (jrecs Z [])) false Z [] else (wageofficelaw43_appended.f k Z [] B r).bind fun u=>wageofficelaw43_JournalCrash.j3 k o true (fsts (jrecs Z [])) (!u) Z []) hsa ?_
   by_cases he:fsts (jrecs Z [])=B
   · rw [decide_eq_true he]
     exact Ev.congr (fun k=>by rw [if_pos rfl]) h3
   · have h2:=h.resolve_left he
     rw [decide_eq_true h2] at hap
     rw [decide_eq_false he]
     refine Ev.congr (f:=fun k=>(wageofficelaw43_appended.f k Z [] B r).bind fun u=>wageofficelaw43_JournalCrash.j3 k o true (fsts (jrecs Z [])) (!u) Z []) (fun k=>by rw [if_neg (by decide)]) ?_
     exact Ev.bind (f:=fun k u=>wageofficelaw43_JournalCrash.j3 k o true (fsts (jrecs Z [])) (!u) Z []) hap h3
end Go.Proofs.Ytfpdmlhknddffaa.Dk
end
section
namespace Go.Proofs.Ytfpdmlhknddffaa.Dk
open Go.RowKit Go.Proofs.YtfpdmlhknddffaaW.PrintWords Go.Proofs.YtfpdmlhknddffaaW.PrintLast Go.Proofs.YtfpdmlhknddffaaW.PrintMore
set_option linter.unusedVariables false
set_option linter.unusedSimpArgs false
theorem crash_hit (r o:List Int) (w p:Nat) (B:List (List Int)) (ws:List S45) (i:Nat) (X:List Int) (h:X.length ≤ 65536) (hi:i < ws.length) (hws:ws.length ≤ 1000) (hw:w ≤ 255) (hp:p ≤ 65535) (a:Nat) (d:List Int) (hx:ws[i]=⟨(a:Int),d⟩) (hd:a + d.length ≤ X.length) (hm:i=w % 3)
 (hn:Ev (fun k=>wageofficelaw43_JournalCrash.j2 k r o true B (splice X a (d.take (p % (d.length + 1)))) []) true):Ev (fun k=>wageofficelaw43_JournalCrash.l0 k r o (w:Int) (p:Int) true B ws (ws.length:Int) (i:Int) X []) true:=by
 have e1:rd_T45 ws (i:Int)=⟨(a:Int),d⟩:=by rw [rd45_nat hi,hx]
 have hW:disk_Write.f X [] (a:Int) d=some (X,[⟨(a:Int),d⟩],0):=by unfold disk_Write.f;rw [write_nil h a d hd]
 have e2:Hid (Int.tmod (wrap64 (w:Int)) 3=(i:Int)):=Lib.hid (by rw [wrap_ok _ (by omega) (by omega),Int.tmod_eq_emod_of_nonneg (by omega)];omega)
 have e3:Hid (wrap64 ((d.length:Int) + 1)=((d.length + 1:Nat):Int)):=Lib.hid (by rw [wrap_ok _ (by omega) (by omega)];rfl)
 have e4:Hid (Int.tmod (wrap64 (p:Int)) ((d.length + 1:Nat):Int)=((p % (d.length + 1):Nat):Int)):=Lib.hid (by rw [wrap_ok _ (by omega) (by omega),Int.tmod_eq_emod_of_nonneg (by omega)];rfl)
 have hlt:p % (d.length + 1) < d.length + 1:=Nat.mod_lt _ (by omega)
 have hC:disk_Crash.f X [⟨(a:Int),d⟩] [((p % (d.length + 1):Nat):Int)]=some (splice X a (d.take (p % (d.length + 1))),[]):=by
  unfold disk_Crash.f
  rw [crash_one h a _ d hd (by omega)]
 refine Ev.step (f:=fun k=>wageofficelaw43_JournalCrash.j2 k r o true B (splice X a (d.take (p % (d.length + 1)))) []) (fun k => ?_) hn
 simp only [wageofficelaw43_JournalCrash.l0]
 rw [if_pos (by omega),if_pos (by omega),if_pos (by omega),e1]
 dsimp only
 rw [hW,e2.out,e3.out,e4.out,Option.bind_some]
 dsimp only
 rw [if_pos rfl,if_pos rfl,if_neg (by omega),hC]
 rfl
theorem crash_go (r o:List Int) (w p:Nat) (B:List (List Int)) (ws:List S45) (i:Nat) (X:List Int) (h:X.length ≤ 65536) (hi:i < ws.length) (hws:ws.length ≤ 1000) (hw:w ≤ 255) (hp:p ≤ 65535) (a:Nat) (d:List Int) (hx:ws[i]=⟨(a:Int),d⟩) (hd:a + d.length ≤ X.length) (hm:i ≠ w % 3)
 (hn:Ev (fun k=>wageofficelaw43_JournalCrash.l0 k r o (w:Int) (p:Int) true B ws (ws.length:Int) ((i + 1:Nat):Int) (splice X a d) []) true):Ev (fun k=>wageofficelaw43_JournalCrash.l0 k r o (w:Int) (p:Int) true B ws (ws.length:Int) (i:Int) X []) true:=by
 have e1:rd_T45 ws (i:Int)=⟨(a:Int),d⟩:=by rw [rd45_nat hi,hx]
 have hW:disk_Write.f X [] (a:Int) d=some (X,[⟨(a:Int),d⟩],0):=by unfold disk_Write.f;rw [write_nil h a d hd]
 have e2:Hid (Int.tmod (wrap64 (w:Int)) 3=((w % 3:Nat):Int)):=Lib.hid (by rw [wrap_ok _ (by omega) (by omega),Int.tmod_eq_emod_of_nonneg (by omega)];rfl)
 have hS:disk_Sync.f X [⟨(a:Int),d⟩]=some (splice X a d,[]):=by unfold disk_Sync.f;rw [sync_one h a d hd]
 refine Ev.step (f:=fun k=>wageofficelaw43_JournalCrash.l0 k r o (w:Int) (p:Int) true B ws (ws.length:Int) ((i + 1:Nat):Int) (splice X a d) []) (fun k => ?_) hn
 simp only [wageofficelaw43_JournalCrash.l0]
 rw [if_pos (by omega),if_pos (by omega),if_pos (by omega),e1]
 dsimp only
 rw [hW,e2.out,Option.bind_some]
 dsimp only
 rw [if_pos rfl,if_neg (by omega),hS,wrap_succ hi (by omega)]
 rfl
theorem mod2 (p:Nat):p % 2=0∨p % 2=1:=by omega
theorem crash_main {l0:List Int} {l1:List S45} (hv:validB l0 l1=true) (hb:Byt l0 l1) (r o:List Int) (hr:∀ x ∈ r,0 ≤ x∧x ≤ 255) (ho:∀ x ∈ o,0 ≤ x∧x ≤ 255) (hol:o.length ≤ 140737488355328) (h0:r.length ≠ 0) (h4:r.length ≤ 4096) (hfit:endN (jrecs l0 l1) 0 + 13 + r.length ≤ l0.length) (w p:Nat) (hw:w ≤ 255) (hp:p ≤ 65535) :
 Ev (fun k=>wageofficelaw43_JournalCrash.l0 k r o (w:Int) (p:Int) true (fsts (jrecs l0 l1)) (writesL l0 l1 r) ((writesL l0 l1 r).length:Int) 0 (syncL l0 l1) []) true:=by
 have hl0:=valid_len hv
 have hsl:=sync_len l0 l1 hv
 have hsr:=sync_rng l0 l1 hb
 obtain ⟨f1,f2,f3,f4⟩:=jrecs_facts (l0:=l0) (l1:=l1)
 obtain ⟨q1,q2,q3,q4,q5⟩:=recs_app hv hb r hr h0 h4 hfit
 have hcut:=fun (Z:List Int) (a b c d)=>recs_cut (l0:=l0) (l1:=l1) hv (Z:=Z) a b c d
 have hIs:IsRecs (syncL l0 l1) 0 0 (jrecs l0 l1):=by unfold jrecs;rw [if_pos hv];exact isRecs_recs _
 have hself:jrecs (syncL l0 l1) []=jrecs l0 l1:=by
  unfold jrecs
  rw [valid_nil (by omega),sync_nil _ (by omega),hv]
 have hBl:(fsts (jrecs l0 l1)).length ≤ 65536:=by simp [fsts];omega
 have hap:(appL l0 l1 r).1=appB (syncL l0 l1) (endN (jrecs l0 l1) 0) (encL r ((jrecs l0 l1).length:Int)):=by
  unfold appL
  rw [if_pos ⟨hv,h0⟩,if_neg (by omega)]
 have hcl:=encL_length r ((jrecs l0 l1).length:Int)
 have hcr:=encL_rng r ((jrecs l0 l1).length:Int) hr
 unfold writesL
 obtain ⟨a,ha⟩:∃ a,a=endN (jrecs l0 l1) 0:=⟨_,rfl⟩
 obtain ⟨X,hX⟩:∃ X,X=syncL l0 l1:=⟨_,rfl⟩
 obtain ⟨code,hcd⟩:∃ code,code=encL r ((jrecs l0 l1).length:Int):=⟨_,rfl⟩
 rw [← ha] at hfit f1 f2 f3 hcut q4 q5 hap ⊢
 rw [← hX] at hsl hsr hcut q4 hIs hself hap ⊢
 rw [← hcd] at hap hcl hcr ⊢
 obtain ⟨rest,hrs⟩:∃ rest,rest=appRest a l0.length code:=⟨_,rfl⟩
 have hrl:=appRest_len a l0.length code (by omega) (by omega)
 have hrr:∀ x ∈ rest,0 ≤ x∧x ≤ 255:=by
  intro x hx
  rw [hrs] at hx
  unfold appRest at hx
  split at hx
  · rcases List.mem_append.1 hx with hx|hx
    · exact hcr x (List.mem_of_mem_drop hx)
    · simp at hx;omega
  · exact hcr x (List.mem_of_mem_drop hx)
 rw [← hrs] at hrl ⊢
 have hz0:∀ x ∈ ([0]:List Int),0 ≤ x∧x ≤ 255:=by simp
 have k1:(splice X a [0]).length=X.length:=splice_length _ _ _ (by simp;omega)
 have r1:=splice_rng (a:=a) hsr hz0
 have k2:(splice (splice X a [0]) (a + 1) rest).length=X.length:=by rw [splice_length _ _ _ (by omega)];exact k1
 have r2:=splice_rng (a:=a + 1) r1 hrr
 have a1:(splice X a [0]).getD a 0=0:=splice_here (by omega)
 have t1:(splice X a [0]).take a=X.take a:=splice_take (Nat.le_refl _) (by omega)
 have hlen3:(3:Nat)=[(⟨(a:Int),[0]⟩:S45),⟨((a + 1:Nat):Int),rest⟩,⟨(a:Int),[82]⟩].length:=rfl
 have hcase:w % 3=0∨w % 3=1∨w % 3=2:=by omega
 rcases hcase with hc|hc|hc
 · refine crash_hit r o w p _ _ 0 X (by omega) (by simp) (by simp) hw hp a [0] rfl (by simp;omega) hc.symm ?_
   rcases mod2 p with h2|h2
   · have e:splice X a (([0]:List Int).take (p % (([0]:List Int).length + 1)))=X:=by
      show splice X a (([0]:List Int).take (p % 2))=X
      rw [h2]
      simp [splice]
     rw [e]
     exact j2_ev (by omega) hsr r o ho hol _ hBl (.inl (by rw [hself]))
   · have e:splice X a (([0]:List Int).take (p % (([0]:List Int).length + 1)))=splice X a [0]:=by
      show splice X a (([0]:List Int).take (p % 2))=_
      rw [h2]
      rfl
     rw [e]
     exact j2_ev (by omega) r1 r o ho hol _ hBl (.inl (by rw [hcut _ (by omega) r1 t1.symm (by rw [a1];decide)]))
 · refine crash_go r o w p _ _ 0 X (by omega) (by simp) (by simp) hw hp a [0] rfl (by simp;omega) (by omega) ?_
   refine crash_hit r o w p _ _ 1 (splice X a [0]) (by omega) (by simp) (by simp) hw hp (a + 1) rest rfl (by omega) hc.symm ?_
   obtain ⟨c,hcc⟩:∃ c,c=p % (rest.length + 1):=⟨_,rfl⟩
   rw [← hcc]
   have hkk:(splice (splice X a [0]) (a + 1) (rest.take c)).length=X.length:=by rw [splice_length _ _ _ (by rw [List.length_take];omega)];exact k1
   have hrk:=splice_rng (a:=a + 1) r1 (fun x hx=>hrr x (List.mem_of_mem_take (i:=c) hx))
   exact j2_ev (by omega) hrk r o ho hol _ hBl (.inl (by
    rw [hcut _ (by omega) hrk (by rw [splice_take (by omega) (by omega)];exact t1.symm) (by rw [splice_at (by omega) (by omega),a1];decide)]))
 · refine crash_go r o w p _ _ 0 X (by omega) (by simp) (by simp) hw hp a [0] rfl (by simp;omega) (by omega) ?_
   refine crash_go r o w p _ _ 1 (splice X a [0]) (by omega) (by simp) (by simp) hw hp (a + 1) rest rfl (by omega) (by omega) ?_
   refine crash_hit r o w p _ _ 2 (splice (splice X a [0]) (a + 1) rest) (by omega) (by simp) (by simp) hw hp a [82] rfl (by simp;omega) hc.symm ?_
   rcases mod2 p with h2|h2
   · have e:splice (splice (splice X a [0]) (a + 1) rest) a (([82]:List Int).take (p % (([82]:List Int).length + 1)))=splice (splice X a [0]) (a + 1) rest:=by
      show splice _ a (([82]:List Int).take (p % 2))=_
      rw [h2]
      simp [splice]
     rw [e]
     exact j2_ev (by omega) r2 r o ho hol _ hBl (.inl (by
      rw [hcut _ (by omega) r2 (by rw [splice_take (by omega) (by omega)];exact t1.symm) (by rw [splice_at (by omega) (by omega),a1];decide)]))
   · have e:splice (splice (splice X a [0]) (a + 1) rest) a (([82]:List Int).take (p % (([82]:List Int).length + 1)))=(appL l0 l1 r).1:=by
      rw [hap]
      unfold appB
      rw [hsl,← hrs]
      show splice _ a (([82]:List Int).take (p % 2))=_
      rw [h2]
      rfl
     rw [e]
     refine j2_ev (by omega) q3 r o ho hol _ hBl (.inr ?_)
     rw [q5]
     simp [fsts]
theorem crash_law (l0:List Int) (l1:List S45) (r o:List Int) (w p:Int) (hf:Fit l1) (hm:Meek l1) (hb:Byt l0 l1) (hr:∀ x ∈ r,0 ≤ x∧x ≤ 255) (ho:∀ x ∈ o,0 ≤ x∧x ≤ 255) (hol:o.length ≤ 140737488355328) (hn:l0.length ≤ 140737488355328) (hw:0 ≤ w∧w ≤ 255) (hp:0 ≤ p∧p ≤ 65535):Ev (fun k=>wageofficelaw43_JournalCrash.f k l0 l1 r o w p) true:=by
 have hup:∀ g:Nat→Option Bool,(∀ k,g k=wageofficelaw43_JournalCrash.j0 k r o w p true true l0 l1)→Ev g true:=by
  intro g hg
  refine Ev.congr hg (Ev.step (f:=fun _=>some true) (fun k => ?_) (Ev.now _))
  simp only [wageofficelaw43_JournalCrash.j0]
  rw [if_pos trivial]
 refine Ev.congr (f:=fun k=>(wageofficelaw43_small.f k l0 l1).bind fun t=>if t=true then ((wageofficeref42_Valid.f k l0 l1).bind fun u=>if u=true then (if (r.length:Int)=0 then wageofficelaw43_JournalCrash.j0 k r o w p true true l0 l1 else wageofficelaw43_JournalCrash.j0 k r o w p true (decide ((r.length:Int) > 4096)) l0 l1) else wageofficelaw43_JournalCrash.j0 k r o w p true true l0 l1) else wageofficelaw43_JournalCrash.j0 k r o w p true true l0 l1) (fun k=>rfl) ?_
 refine Ev.bind (f:=fun k t=>if t=true then ((wageofficeref42_Valid.f k l0 l1).bind fun u=>if u=true then (if (r.length:Int)=0 then wageofficelaw43_JournalCrash.j0 k r o w p true true l0 l1 else wageofficelaw43_JournalCrash.j0 k r o w p true (decide ((r.length:Int) > 4096)) l0 l1) else wageofficelaw43_JournalCrash.j0 k r o w p true true l0 l1) else wageofficelaw43_JournalCrash.j0 k r o w p true true l0 l1) (small43_ev l0 l1 hf.1) ?_
 cases hs:smallV l0 l1
 · exact hup _ (fun k=>by rw [if_neg (by decide)])
 · obtain ⟨s1,s2,s3⟩:=smallV_true hm hn hs
   refine Ev.congr (f:=fun k=>(wageofficeref42_Valid.f k l0 l1).bind fun u=>if u=true then (if (r.length:Int)=0 then wageofficelaw43_JournalCrash.j0 k r o w p true true l0 l1 else wageofficelaw43_JournalCrash.j0 k r o w p true (decide ((r.length:Int) > 4096)) l0 l1) else wageofficelaw43_JournalCrash.j0 k r o w p true true l0 l1) (fun k=>by rw [if_pos rfl]) ?_
   refine Ev.bind (f:=fun k u=>if u=true then (if (r.length:Int)=0 then wageofficelaw43_JournalCrash.j0 k r o w p true true l0 l1 else wageofficelaw43_JournalCrash.j0 k r o w p true (decide ((r.length:Int) > 4096)) l0 l1) else wageofficelaw43_JournalCrash.j0 k r o w p true true l0 l1) (valid_ev l0 l1 hf) ?_
   cases hv:validB l0 l1
   · exact hup _ (fun k=>by rw [if_neg (by decide)])
   · by_cases h0:r.length=0
     · exact hup _ (fun k=>by rw [if_pos rfl,if_pos (by omega)])
     · by_cases h4:r.length > 4096
       · exact hup _ (fun k=>by rw [if_pos rfl,if_neg (by omega),decide_eq_true (by omega)])
       · refine Ev.congr (f:=fun k=>wageofficelaw43_JournalCrash.j0 k r o w p true false l0 l1) (fun k=>by rw [if_pos rfl,if_neg (by omega),decide_eq_false (by omega)]) ?_
         obtain ⟨wn,rfl⟩:∃ wn:Nat,w=(wn:Int):=⟨w.toNat,by omega⟩
         obtain ⟨pn,rfl⟩:∃ pn:Nat,p=(pn:Int):=⟨p.toNat,by omega⟩
         have hC:=records_eq (l0:=l0) (l1:=l1) hb
         have he:endOf (jrecs l0 l1)=((endN (jrecs l0 l1) 0:Nat):Int):=rfl
         obtain ⟨f1,f2,f3,f4⟩:=jrecs_facts (l0:=l0) (l1:=l1)
         have hwx:Hid (wrap64 (wrap64 (((endN (jrecs l0 l1) 0:Nat):Int) + 13) + (r.length:Int))=((endN (jrecs l0 l1) 0 + 13 + r.length:Nat):Int)):=Lib.hid (by
          rw [wrap_ok (((endN (jrecs l0 l1) 0:Nat):Int) + 13) (by omega) (by omega),wrap_ok _ (by omega) (by omega)]
          omega)
         have hS:disk_Sync.f l0 l1=some (syncL l0 l1,[]):=rfl
         have st:∀ k,wageofficelaw43_JournalCrash.j0 (k + 1) r o (wn:Int) (pn:Int) true false l0 l1=(if ((endN (jrecs l0 l1) 0 + 13 + r.length:Nat):Int) > (l0.length:Int) then some true else (wageofficeref43_Writes.f k l0 l1 r).bind fun t=>wageofficelaw43_JournalCrash.l0 k r o (wn:Int) (pn:Int) true (fsts (jrecs l0 l1)) t (t.length:Int) 0 (syncL l0 l1) []):=by
          intro k
          simp only [wageofficelaw43_JournalCrash.j0]
          rw [if_neg (by decide),hC,Option.bind_some]
          dsimp only
          rw [he,hwx.out,hS]
          rfl
         by_cases hfit:endN (jrecs l0 l1) 0 + 13 + r.length ≤ l0.length
         · refine Ev.step (f:=fun k=>(wageofficeref43_Writes.f k l0 l1 r).bind fun t=>wageofficelaw43_JournalCrash.l0 k r o (wn:Int) (pn:Int) true (fsts (jrecs l0 l1)) t (t.length:Int) 0 (syncL l0 l1) []) (fun k => ?_) ?_
           · rw [st,if_neg (by omega)]
           · exact Ev.bind (f:=fun k t=>wageofficelaw43_JournalCrash.l0 k r o (wn:Int) (pn:Int) true (fsts (jrecs l0 l1)) t (t.length:Int) 0 (syncL l0 l1) []) (writes_ev hf hb r (by omega)) (crash_main hv hb r o hr ho hol h0 (by omega) hfit wn pn (by omega) (by omega))
         · refine Ev.step (f:=fun _=>some true) (fun k => ?_) (Ev.now _)
           rw [st,if_pos (by omega)]
end Go.Proofs.Ytfpdmlhknddffaa.Dk
end
