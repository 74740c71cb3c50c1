/- Contracts of functions, and plain laws, that the statement's proof uses; printed and joined by programs of this session. -/
import Derived.Test.YtfpdmlhknddffaaG2
import Derived.Maps.OwnIn
import Derived.Maps.AppendAt
import Derived.Lib.SlBytesConst
import Derived.Lib.Bytes
import Derived.Test.YtfpdmlhknddffaaRows
import Derived.ProofKit
import Derived.WalkKit
import Derived.OpenShut
import Derived.ChangeOld
import Derived.ChangeSlices
import Derived.Below
import Derived.SizedLaws
import Derived.Carry
import Derived.Deep.SlicePairs
import Derived.Lib.SmallJoins
import Derived.Deep.Slices
section
namespace Go.Proofs.Ytfpdmlhknddffaa.Dk
open Go.RowKit Go.Proofs.YtfpdmlhknddffaaW.PrintWords Go.Proofs.YtfpdmlhknddffaaW.PrintLast Go.Proofs.YtfpdmlhknddffaaW.PrintMore
set_option linter.unusedVariables false
set_option linter.unusedSimpArgs false
theorem byte_at {b:List Int} (h:∀ x ∈ b,0 ≤ x∧x ≤ 255) (i:Nat):0 ≤ b.getD i 0∧b.getD i 0 ≤ 255:=by
 rw [List.getD_eq_getElem?_getD]
 cases hi:b[i]? with
 | none=>simp
 | some x=>exact h x (List.mem_of_getElem? hi)
theorem add_add2 (ad:Addr) (i j:Nat):(ad.add i).add j=ad.add (i + j):=by
 unfold Addr.add
 by_cases h:i=0
 · subst h;simp
 · simp [h,Nat.add_assoc]
theorem cell_below {w w':World} {p:Addr} {v:Value} (hb:Below w.heap.size w w') (h:w.cell? p=some v):w'.cell? p=some v:=(hb.cell (World.block_lt_of_cell? w p h)).trans h
theorem recAt_none_of {b:List Int} {kk at_ n:Nat} (hn:numAt b at_=(n:Int)) (h:n=0∨4096 < n∨b.length < at_ + 13 + n∨recEq b kk at_ n=false):recAt b kk at_=none:=by
 unfold recAt
 rw [hn,Int.toNat_natCast]
 rw [if_neg]
 rintro ⟨_,h2,h3,h4,h5⟩
 rcases h with h|h|h|h
 · omega
 · omega
 · omega
 · rw [h] at h5;cases h5
theorem recAt_some_of {b:List Int} {kk at_ n:Nat} (hn:numAt b at_=(n:Int)) (h1:at_ + 13 < b.length) (h2:0 < n) (h3:n ≤ 4096) (h4:at_ + 13 + n ≤ b.length) (h5:recEq b kk at_ n=true):recAt b kk at_=some ((b.take (at_ + 13 + n)).drop (at_ + 13),at_ + 13 + n):=by
 unfold recAt
 rw [hn,Int.toNat_natCast]
 rw [if_pos ⟨h1,h2,h3,h4,h5⟩]
set_option maxHeartbeats 4000000 in
theorem find_walk (l Bx n0 base dd:Nat) (A:Option Addr) (c:Nat) (b:List Int) (J:List RecV→Nat→World→Prop) (W:World) (hB:W.heap[Bx]? = some (.cells #[.slice A b.length c] 22 (0,0))) (hb:Kd.C (Kd.int .u8) W A b.length b) (hbc:b.length ≤ c) (hbl:b.length ≤ 65536) (hrg:∀ x ∈ b,0 ≤ x∧x ≤ 255)
 (hA:∀ ad,A=some ad→ad.block < n0) (hbase:base ≤ W.heap.size) (hJ:∀ s m A B,J s m A→A.grownBy B none→J s m B)
 (hY:∀ pre m x W1,J pre m W1→RecC base m x W1→pre.length < b.length→YieldAt Fence.wide dd Try.prog l (recEncs x) W1 fun e W'=>e=.returned (.bool true)∧J (pre ++ [x]) W'.heap.size W'∧RecKp n0 Bx W1 W')
 (h0:∃ m,m ≤ W.heap.size∧J [] m W) :
 Calls Try.prog 62 #[.func (.yield l) #[] #[],.pointer (some ⟨Bx,0,none⟩)] W fun e W'=>(∃ v,e=.returned v)∧∃ xs m,RecS b xs∧J xs m W':=by
 have hu22:=Try.underlying22
 have Hrg:=Lib.hid hrg
 have HY:=Lib.hid hY
 have HA:=Lib.hid hA
 have Hb:=Lib.hid hb
 have HB:=Lib.hid hB
 have Hbase:=Lib.hid hbase
 obtain ⟨m0,hm0,hJ0⟩:=h0
 have HJ0:=Lib.hid hJ0
 have Hm0:=Lib.hid hm0
 clear hrg hY hA hb hB hbase hJ0 hm0
 go_enter Try.func62,Try.ntmps62
 go_wp2
 go_loopg [3,4] b.length (fun k v3 v4 wr=>∃ (at_ kk:Nat) (xs:List RecV) (m:Nat),at_ ≤ b.length∧k=b.length - at_∧v3=.int .i64 at_∧v4=.int .i64 kk∧Hid (wr.heap[Bx]? = some (.cells #[.slice A b.length c] 22 (0,0)))∧Hid (Kd.C (Kd.int .u8) wr A b.length b)
  ∧ Hid (∀ L,IsRecs b kk at_ L→IsRecs b 0 0 (xs.map (·.2) ++ L))∧Hid (J xs m wr)∧Hid (m ≤ wr.heap.size)∧Hid (base ≤ wr.heap.size)∧Hid (xs.length=kk)∧kk ≤ at_)
 case atStart=>exact ⟨0,0,[],m0,by omega,by omega,rfl,rfl,HB,Hb,Lib.hid (fun L h=>h),Lib.hid (hJ _ _ _ _ HJ0.out (grown_of_below (by repeat (first|exact Below.refl _ _|apply below_drew)))),Hm0,Hbase,Lib.hid rfl,by omega⟩
 case round =>
  obtain ⟨at_,kk,xs,m,hat,rfl,rfl,rfl,HBx,HC,HE,HJ,Hm,Hbs,Hxs,hka⟩:=hrel
  have k0:=(blk_cell HBx.out 0).trans rfl
  by_cases hlt:at_ + 13 < b.length
  · have e1:wrap64 ((b.length:Int) - (at_:Int))=(b.length:Int) - (at_:Int):=by unfold wrap64;omega
    have e2:decide ((b.length:Int) - (at_:Int) > 13)=true:=decide_eq_true (by omega)
    obtain ⟨ad,ead,hbc'⟩:=kept_at HC.out (by omega)
    cases ead
    have c1:=hbc' (at_ + 1) (by omega)
    have c2:=hbc' (at_ + 2) (by omega)
    rw [show ad.add (at_ + 1)=⟨ad.block,ad.off + (at_ + 1),none⟩ by simp [Addr.add]] at c1
    have c2':wr.cell? (ad.add ((at_:Int) + 2).toNat)=some (.int .u8 (b.getD (at_ + 2) 0)):=by rw [show ((at_:Int) + 2).toNat=at_ + 2 by omega];exact c2
    have C1:=Lib.hid c1
    have C2:=Lib.hid c2'
    have h1:wrap64 ((at_:Int) + 1)=(at_:Int) + 1:=by unfold wrap64;omega
    have h2:wrap64 ((at_:Int) + 2)=(at_:Int) + 2:=by unfold wrap64;omega
    have h1':=(i64_w _).trans h1
    have h2':=(i64_w _).trans h2
    have h3:(0 ≤ (at_:Int) + 1)=True:=eq_true (by omega)
    have h4:((at_:Int) + 1 < (b.length:Int))=True:=eq_true (by omega)
    have h5:(0 ≤ (at_:Int) + 2)=True:=eq_true (by omega)
    have h6:((at_:Int) + 2 < (b.length:Int))=True:=eq_true (by omega)
    clear hbc' c1 c2 c2'
    go_wp2_with (fail)
    have HBd:=Lib.hid (blk_drew HBx.out)
    refine start_ (n:=15) (S:=fun w'=>w'.cell? ⟨Bx,0,none⟩=some (.slice (some ad) b.length c)∧w'.cell? ⟨ad.block,ad.off + (at_ + 1),none⟩=some (.int .u8 (b.getD (at_ + 1) 0))∧w'.cell? (ad.add ((at_:Int) + 2).toNat)=some (.int .u8 (b.getD (at_ + 2) 0))) (ds:=[]) #[false,false,false,false,false,false,false,false,false,false,false,false,false,false,false] (by kernel_rfl) rfl rfl ⟨(blk_cell HBd.out 0).trans rfl,C1.out,C2.out⟩ ?_
    intro hHeld
    refine pure_ (i:=1) (N:=some 16) (v:=?_) (a':=?_) #[false,true,false,false,false,false,false,false,false,false,false,false,false,false,false] rfl rfl (by kernel_rfl) (fun _ _ _ h=>h) (Or.inl ⟨by rfl,?_⟩) ?_ ?_
    rotate_left
    · intro w'
      go_simp
      try (with_reducible rfl)
    rotate_left
    · simp only [Act.put,List.setIfInBounds_toArray,List.set_cons_zero,List.set_cons_succ]
      rfl
    refine pure_ (i:=2) (N:=some 17) (v:=?_) (a':=?_) #[false,true,true,false,false,false,false,false,false,false,false,false,false,false,false] rfl rfl (by kernel_rfl) (fun _ _ _ h=>h) (Or.inl ⟨by rfl,?_⟩) ?_ ?_
    rotate_left
    · intro w'
      go_simp
      try (with_reducible rfl)
    rotate_left
    · simp only [Act.put,List.setIfInBounds_toArray,List.set_cons_zero,List.set_cons_succ]
      rfl
    refine pure_ (i:=8) (N:=some 23) (v:=?_) (a':=?_) #[false,true,true,false,false,false,false,false,true,false,false,false,false,false,false] rfl rfl (by kernel_rfl) (fun _ _ _ h=>h) (Or.inl ⟨by rfl,?_⟩) ?_ ?_
    rotate_left
    · intro w'
      go_simp
      try (with_reducible rfl)
    rotate_left
    · simp only [Act.put,List.setIfInBounds_toArray,List.set_cons_zero,List.set_cons_succ]
      rfl
    refine pure_ (i:=9) (N:=some 24) (v:=?_) (a':=?_) #[false,true,true,false,false,false,false,false,true,true,false,false,false,false,false] rfl rfl (by kernel_rfl) (fun _ _ _ h=>h) (Or.inl ⟨by rfl,?_⟩) ?_ ?_
    rotate_left
    · intro w'
      go_simp
      try (with_reducible rfl)
    rotate_left
    · simp only [Act.put,List.setIfInBounds_toArray,List.set_cons_zero,List.set_cons_succ]
      rfl
    refine take_ (i:=0) (N:=some 15) (v:=?_) (a':=?_) #[true,true,true,false,false,false,false,false,true,true,false,false,false,false,false] rfl rfl (by kernel_rfl) (fun _ _ _ h=>h) (Or.inl ⟨by rfl,?_⟩) hHeld ?_ ?_
    rotate_left
    · rintro w' ⟨s0,s1,s2⟩
      go_simp
      with_reducible rfl
    rotate_left
    · simp only [Act.put,List.setIfInBounds_toArray,List.set_cons_zero,List.set_cons_succ]
      rfl
    refine pure_ (i:=3) (N:=some 18) (v:=?_) (a':=?_) #[true,true,true,true,false,false,false,false,true,true,false,false,false,false,false] rfl rfl (by kernel_rfl) (fun _ _ _ h=>h) (Or.inl ⟨by rfl,?_⟩) ?_ ?_
    rotate_left
    · intro w'
      go_simp
      try (with_reducible rfl)
    rotate_left
    · simp only [Act.put,List.setIfInBounds_toArray,List.set_cons_zero,List.set_cons_succ]
      rfl
    refine take_ (i:=4) (N:=some 19) (v:=?_) (a':=?_) #[true,true,true,true,true,false,false,false,true,true,false,false,false,false,false] rfl rfl (by kernel_rfl) (fun _ _ _ h=>h) (Or.inl ⟨by rfl,?_⟩) hHeld ?_ ?_
    rotate_left
    · rintro w' ⟨s0,s1,s2⟩
      go_simp
      with_reducible rfl
    rotate_left
    · simp only [Act.put,List.setIfInBounds_toArray,List.set_cons_zero,List.set_cons_succ]
      rfl
    refine pure_ (i:=5) (N:=some 20) (v:=?_) (a':=?_) #[true,true,true,true,true,true,false,false,true,true,false,false,false,false,false] rfl rfl (by kernel_rfl) (fun _ _ _ h=>h) (Or.inl ⟨by rfl,?_⟩) ?_ ?_
    rotate_left
    · intro w'
      go_simp
      try (with_reducible rfl)
    rotate_left
    · simp only [Act.put,List.setIfInBounds_toArray,List.set_cons_zero,List.set_cons_succ]
      rfl
    refine pure_ (i:=6) (N:=some 21) (v:=?_) (a':=?_) #[true,true,true,true,true,true,true,false,true,true,false,false,false,false,false] rfl rfl (by kernel_rfl) (fun _ _ _ h=>h) (Or.inl ⟨by rfl,?_⟩) ?_ ?_
    rotate_left
    · intro w'
      go_simp
      try (with_reducible rfl)
    rotate_left
    · simp only [Act.put,List.setIfInBounds_toArray,List.set_cons_zero,List.set_cons_succ]
      rfl
    refine take_ (i:=7) (N:=some 22) (v:=?_) (a':=?_) #[true,true,true,true,true,true,true,true,true,true,false,false,false,false,false] rfl rfl (by kernel_rfl) (fun _ _ _ h=>h) (Or.inl ⟨by rfl,?_⟩) hHeld ?_ ?_
    rotate_left
    · rintro w' ⟨s0,s1,s2⟩
      go_simp
      with_reducible rfl
    rotate_left
    · simp only [Act.put,List.setIfInBounds_toArray,List.set_cons_zero,List.set_cons_succ]
      rfl
    refine pure_ (i:=10) (N:=some 25) (v:=?_) (a':=?_) #[true,true,true,true,true,true,true,true,true,true,true,false,false,false,false] rfl rfl (by kernel_rfl) (fun _ _ _ h=>h) (Or.inl ⟨by rfl,?_⟩) ?_ ?_
    rotate_left
    · intro w'
      go_simp
      try (with_reducible rfl)
    rotate_left
    · simp only [Act.put,List.setIfInBounds_toArray,List.set_cons_zero,List.set_cons_succ]
      rfl
    refine take_ (i:=11) (N:=some 26) (v:=?_) (a':=?_) #[true,true,true,true,true,true,true,true,true,true,true,true,false,false,false] rfl rfl (by kernel_rfl) (fun _ _ _ h=>h) (Or.inl ⟨by rfl,?_⟩) hHeld ?_ ?_
    rotate_left
    · rintro w' ⟨s0,s1,s2⟩
      go_simp
      with_reducible rfl
    rotate_left
    · simp only [Act.put,List.setIfInBounds_toArray,List.set_cons_zero,List.set_cons_succ]
      rfl
    refine pure_ (i:=12) (N:=some 27) (v:=?_) (a':=?_) #[true,true,true,true,true,true,true,true,true,true,true,true,true,false,false] rfl rfl (by kernel_rfl) (fun _ _ _ h=>h) (Or.inl ⟨by rfl,?_⟩) ?_ ?_
    rotate_left
    · intro w'
      go_simp
      try (with_reducible rfl)
    rotate_left
    · simp only [Act.put,List.setIfInBounds_toArray,List.set_cons_zero,List.set_cons_succ]
      rfl
    refine pure_ (i:=13) (N:=some 28) (v:=?_) (a':=?_) #[true,true,true,true,true,true,true,true,true,true,true,true,true,true,false] rfl rfl (by kernel_rfl) (fun _ _ _ h=>h) (Or.inl ⟨by rfl,?_⟩) ?_ ?_
    rotate_left
    · intro w'
      go_simp
      try (with_reducible rfl)
    rotate_left
    · simp only [Act.put,List.setIfInBounds_toArray,List.set_cons_zero,List.set_cons_succ]
      rfl
    refine pure_ (i:=14) (N:=some 5) (v:=?_) (a':=?_) #[true,true,true,true,true,true,true,true,true,true,true,true,true,true,true] rfl rfl (by kernel_rfl) (fun _ _ _ h=>h) (Or.inl ⟨by rfl,?_⟩) ?_ ?_
    rotate_left
    · intro w'
      go_simp
      try (with_reducible rfl)
    rotate_left
    · simp only [Act.put,List.setIfInBounds_toArray,List.set_cons_zero,List.set_cons_succ]
      rfl
    refine done_ (by kernel_rfl) ?_
    have r1:0 ≤ b.getD (at_ + 1) 0∧b.getD (at_ + 1) 0 ≤ 255:=byte_at Hrg.out (at_ + 1)
    have r2:0 ≤ b.getD (at_ + 2) 0∧b.getD (at_ + 2) 0 ≤ 255:=byte_at Hrg.out (at_ + 2)
    have en:=numAt_eq r1 r2
    obtain ⟨n,hn⟩:∃ n:Nat,numAt b at_=(n:Int):=⟨(numAt b at_).toNat,by omega⟩
    have hn2:n ≤ 65535:=by omega
    have hn3:bits .or .i64 (IntKind.i64.wrap (IntKind.i64.wrap (b[at_ + 1]?.getD 0) * 256)) (IntKind.i64.wrap (b[at_ + 2]?.getD 0))=(n:Int):=by rw [← hn];unfold numAt;simp only [List.getD_eq_getElem?_getD]
    rw [hn3]
    have Hn:=Lib.hid hn
    clear r1 r2 en hn hn3 h1 h2 h1' h2' h3 h4 h5 h6 k0 e1 e2 hHeld
    have m1:wrap64 ((at_:Int) + 13)=(at_:Int) + 13:=by unfold wrap64;omega
    have m2:wrap64 ((at_:Int) + 13 + (n:Int))=(at_:Int) + 13 + (n:Int):=by unfold wrap64;omega
    have m1':=(i64_w _).trans m1
    have m2':=(i64_w _).trans m2
    go_wp2_with (fail)
    have HBe:=Lib.hid (blk_drew HBd.out)
    by_cases hz:n=0
    · have z0:((n:Int) == 0)=true:=by simp [hz]
      have z1:((n:Int)=0)=True:=eq_true (by omega)
      refine start_ (n:=27) (S:=fun w'=>w'.cell? ⟨Bx,0,none⟩=some (.slice (some ad) b.length c)) (ds:=[]) #[false,false,false,false,false,false,false,false,false,false,false,false,false,false,false,false,false,false,false,false,false,false,false,false,false,false,false] (by kernel_rfl) rfl rfl (by exact (blk_cell HBe.out 0).trans rfl) ?_
      intro hHeld
      refine pure_ (i:=0) (N:=some 33) (v:=?_) (a':=?_) #[true,false,false,false,false,false,false,false,false,false,false,false,false,false,false,false,false,false,false,false,false,false,false,false,false,false,false] rfl rfl (by kernel_rfl) (fun _ _ _ h=>h) (Or.inl ⟨by rfl,?_⟩) ?_ ?_
      rotate_left
      · intro w'
        go_simp
        try (with_reducible rfl)
      rotate_left
      · simp only [Act.put,List.setIfInBounds_toArray,List.set_cons_zero,List.set_cons_succ]
        rfl
      refine pure_ (i:=1) (N:=some 34) (v:=?_) (a':=?_) #[true,true,false,false,false,false,false,false,false,false,false,false,false,false,false,false,false,false,false,false,false,false,false,false,false,false,false] rfl rfl (by kernel_rfl) (fun _ _ _ h=>h) (Or.inl ⟨by rfl,?_⟩) ?_ ?_
      rotate_left
      · intro w'
        go_simp
        try (with_reducible rfl)
      rotate_left
      · simp only [Act.put,List.setIfInBounds_toArray,List.set_cons_zero,List.set_cons_succ]
        rfl
      refine pure_ (i:=2) (N:=some 35) (v:=?_) (a':=?_) #[true,true,true,false,false,false,false,false,false,false,false,false,false,false,false,false,false,false,false,false,false,false,false,false,false,false,false] rfl rfl (by kernel_rfl) (fun _ _ _ h=>h) (Or.inl ⟨by rfl,?_⟩) ?_ ?_
      rotate_left
      · intro w'
        go_simp
        try (with_reducible rfl)
      rotate_left
      · simp only [Act.put,List.setIfInBounds_toArray,List.set_cons_zero,List.set_cons_succ]
        rfl
      refine pure_ (i:=3) (N:=some 36) (v:=undef) (a':=?_) #[true,true,true,true,false,false,false,false,false,false,false,false,false,false,false,false,false,false,false,false,false,false,false,false,false,false,false] rfl rfl (by kernel_rfl) (fun _ _ _ h=>h) (Or.inr ⟨by rfl,rfl⟩) ?_ ?_
      rotate_left
      · simp only [Act.put,List.setIfInBounds_toArray,List.set_cons_zero,List.set_cons_succ]
        rfl
      refine pure_ (i:=4) (N:=some 37) (v:=undef) (a':=?_) #[true,true,true,true,true,false,false,false,false,false,false,false,false,false,false,false,false,false,false,false,false,false,false,false,false,false,false] rfl rfl (by kernel_rfl) (fun _ _ _ h=>h) (Or.inr ⟨by rfl,rfl⟩) ?_ ?_
      rotate_left
      · simp only [Act.put,List.setIfInBounds_toArray,List.set_cons_zero,List.set_cons_succ]
        rfl
      refine pure_ (i:=5) (N:=some 38) (v:=?_) (a':=?_) #[true,true,true,true,true,true,false,false,false,false,false,false,false,false,false,false,false,false,false,false,false,false,false,false,false,false,false] rfl rfl (by kernel_rfl) (fun _ _ _ h=>h) (Or.inl ⟨by rfl,?_⟩) ?_ ?_
      rotate_left
      · intro w'
        go_simp
        try (with_reducible rfl)
      rotate_left
      · simp only [Act.put,List.setIfInBounds_toArray,List.set_cons_zero,List.set_cons_succ]
        rfl
      refine pure_ (i:=6) (N:=some 39) (v:=?_) (a':=?_) #[true,true,true,true,true,true,true,false,false,false,false,false,false,false,false,false,false,false,false,false,false,false,false,false,false,false,false] rfl rfl (by kernel_rfl) (fun _ _ _ h=>h) (Or.inl ⟨by rfl,?_⟩) ?_ ?_
      rotate_left
      · intro w'
        go_simp
        try (with_reducible rfl)
      rotate_left
      · simp only [Act.put,List.setIfInBounds_toArray,List.set_cons_zero,List.set_cons_succ]
        rfl
      refine pure_ (i:=7) (N:=some 40) (v:=undef) (a':=?_) #[true,true,true,true,true,true,true,true,false,false,false,false,false,false,false,false,false,false,false,false,false,false,false,false,false,false,false] rfl rfl (by kernel_rfl) (fun _ _ _ h=>h) (Or.inr ⟨by rfl,rfl⟩) ?_ ?_
      rotate_left
      · simp only [Act.put,List.setIfInBounds_toArray,List.set_cons_zero,List.set_cons_succ]
        rfl
      refine pure_ (i:=8) (N:=some 41) (v:=undef) (a':=?_) #[true,true,true,true,true,true,true,true,true,false,false,false,false,false,false,false,false,false,false,false,false,false,false,false,false,false,false] rfl rfl (by kernel_rfl) (fun _ _ _ h=>h) (Or.inr ⟨by rfl,rfl⟩) ?_ ?_
      rotate_left
      · simp only [Act.put,List.setIfInBounds_toArray,List.set_cons_zero,List.set_cons_succ]
        rfl
      refine pure_ (i:=9) (N:=some 42) (v:=undef) (a':=?_) #[true,true,true,true,true,true,true,true,true,true,false,false,false,false,false,false,false,false,false,false,false,false,false,false,false,false,false] rfl rfl (by kernel_rfl) (fun _ _ _ h=>h) (Or.inr ⟨by rfl,rfl⟩) ?_ ?_
      rotate_left
      · simp only [Act.put,List.setIfInBounds_toArray,List.set_cons_zero,List.set_cons_succ]
        rfl
      refine pure_ (i:=10) (N:=some 43) (v:=undef) (a':=?_) #[true,true,true,true,true,true,true,true,true,true,true,false,false,false,false,false,false,false,false,false,false,false,false,false,false,false,false] rfl rfl (by kernel_rfl) (fun _ _ _ h=>h) (Or.inr ⟨by rfl,rfl⟩) ?_ ?_
      rotate_left
      · simp only [Act.put,List.setIfInBounds_toArray,List.set_cons_zero,List.set_cons_succ]
        rfl
      refine pure_ (i:=11) (N:=some 44) (v:=?_) (a':=?_) #[true,true,true,true,true,true,true,true,true,true,true,true,false,false,false,false,false,false,false,false,false,false,false,false,false,false,false] rfl rfl (by kernel_rfl) (fun _ _ _ h=>h) (Or.inl ⟨by rfl,?_⟩) ?_ ?_
      rotate_left
      · intro w'
        go_simp
        try (with_reducible rfl)
      rotate_left
      · simp only [Act.put,List.setIfInBounds_toArray,List.set_cons_zero,List.set_cons_succ]
        rfl
      refine pure_ (i:=12) (N:=some 45) (v:=?_) (a':=?_) #[true,true,true,true,true,true,true,true,true,true,true,true,true,false,false,false,false,false,false,false,false,false,false,false,false,false,false] rfl rfl (by kernel_rfl) (fun _ _ _ h=>h) (Or.inl ⟨by rfl,?_⟩) ?_ ?_
      rotate_left
      · intro w'
        go_simp
        try (with_reducible rfl)
      rotate_left
      · simp only [Act.put,List.setIfInBounds_toArray,List.set_cons_zero,List.set_cons_succ]
        rfl
      refine pure_ (i:=13) (N:=some 46) (v:=undef) (a':=?_) #[true,true,true,true,true,true,true,true,true,true,true,true,true,true,false,false,false,false,false,false,false,false,false,false,false,false,false] rfl rfl (by kernel_rfl) (fun _ _ _ h=>h) (Or.inr ⟨by rfl,rfl⟩) ?_ ?_
      rotate_left
      · simp only [Act.put,List.setIfInBounds_toArray,List.set_cons_zero,List.set_cons_succ]
        rfl
      refine pure_ (i:=14) (N:=some 47) (v:=undef) (a':=?_) #[true,true,true,true,true,true,true,true,true,true,true,true,true,true,true,false,false,false,false,false,false,false,false,false,false,false,false] rfl rfl (by kernel_rfl) (fun _ _ _ h=>h) (Or.inr ⟨by rfl,rfl⟩) ?_ ?_
      rotate_left
      · simp only [Act.put,List.setIfInBounds_toArray,List.set_cons_zero,List.set_cons_succ]
        rfl
      refine pure_ (i:=15) (N:=some 48) (v:=undef) (a':=?_) #[true,true,true,true,true,true,true,true,true,true,true,true,true,true,true,true,false,false,false,false,false,false,false,false,false,false,false] rfl rfl (by kernel_rfl) (fun _ _ _ h=>h) (Or.inr ⟨by rfl,rfl⟩) ?_ ?_
      rotate_left
      · simp only [Act.put,List.setIfInBounds_toArray,List.set_cons_zero,List.set_cons_succ]
        rfl
      refine pure_ (i:=16) (N:=some 49) (v:=undef) (a':=?_) #[true,true,true,true,true,true,true,true,true,true,true,true,true,true,true,true,true,false,false,false,false,false,false,false,false,false,false] rfl rfl (by kernel_rfl) (fun _ _ _ h=>h) (Or.inr ⟨by rfl,rfl⟩) ?_ ?_
      rotate_left
      · simp only [Act.put,List.setIfInBounds_toArray,List.set_cons_zero,List.set_cons_succ]
        rfl
      refine pure_ (i:=17) (N:=some 50) (v:=undef) (a':=?_) #[true,true,true,true,true,true,true,true,true,true,true,true,true,true,true,true,true,true,false,false,false,false,false,false,false,false,false] rfl rfl (by kernel_rfl) (fun _ _ _ h=>h) (Or.inr ⟨by rfl,rfl⟩) ?_ ?_
      rotate_left
      · simp only [Act.put,List.setIfInBounds_toArray,List.set_cons_zero,List.set_cons_succ]
        rfl
      refine pure_ (i:=18) (N:=some 51) (v:=undef) (a':=?_) #[true,true,true,true,true,true,true,true,true,true,true,true,true,true,true,true,true,true,true,false,false,false,false,false,false,false,false] rfl rfl (by kernel_rfl) (fun _ _ _ h=>h) (Or.inr ⟨by rfl,rfl⟩) ?_ ?_
      rotate_left
      · simp only [Act.put,List.setIfInBounds_toArray,List.set_cons_zero,List.set_cons_succ]
        rfl
      refine pure_ (i:=19) (N:=some 52) (v:=undef) (a':=?_) #[true,true,true,true,true,true,true,true,true,true,true,true,true,true,true,true,true,true,true,true,false,false,false,false,false,false,false] rfl rfl (by kernel_rfl) (fun _ _ _ h=>h) (Or.inr ⟨by rfl,rfl⟩) ?_ ?_
      rotate_left
      · simp only [Act.put,List.setIfInBounds_toArray,List.set_cons_zero,List.set_cons_succ]
        rfl
      refine pure_ (i:=20) (N:=some 53) (v:=undef) (a':=?_) #[true,true,true,true,true,true,true,true,true,true,true,true,true,true,true,true,true,true,true,true,true,false,false,false,false,false,false] rfl rfl (by kernel_rfl) (fun _ _ _ h=>h) (Or.inr ⟨by rfl,rfl⟩) ?_ ?_
      rotate_left
      · simp only [Act.put,List.setIfInBounds_toArray,List.set_cons_zero,List.set_cons_succ]
        rfl
      refine pure_ (i:=21) (N:=some 54) (v:=undef) (a':=?_) #[true,true,true,true,true,true,true,true,true,true,true,true,true,true,true,true,true,true,true,true,true,true,false,false,false,false,false] rfl rfl (by kernel_rfl) (fun _ _ _ h=>h) (Or.inr ⟨by rfl,rfl⟩) ?_ ?_
      rotate_left
      · simp only [Act.put,List.setIfInBounds_toArray,List.set_cons_zero,List.set_cons_succ]
        rfl
      refine pure_ (i:=22) (N:=some 55) (v:=undef) (a':=?_) #[true,true,true,true,true,true,true,true,true,true,true,true,true,true,true,true,true,true,true,true,true,true,true,false,false,false,false] rfl rfl (by kernel_rfl) (fun _ _ _ h=>h) (Or.inr ⟨by rfl,rfl⟩) ?_ ?_
      rotate_left
      · simp only [Act.put,List.setIfInBounds_toArray,List.set_cons_zero,List.set_cons_succ]
        rfl
      refine pure_ (i:=23) (N:=some 56) (v:=undef) (a':=?_) #[true,true,true,true,true,true,true,true,true,true,true,true,true,true,true,true,true,true,true,true,true,true,true,true,false,false,false] rfl rfl (by kernel_rfl) (fun _ _ _ h=>h) (Or.inr ⟨by rfl,rfl⟩) ?_ ?_
      rotate_left
      · simp only [Act.put,List.setIfInBounds_toArray,List.set_cons_zero,List.set_cons_succ]
        rfl
      refine pure_ (i:=24) (N:=some 57) (v:=undef) (a':=?_) #[true,true,true,true,true,true,true,true,true,true,true,true,true,true,true,true,true,true,true,true,true,true,true,true,true,false,false] rfl rfl (by kernel_rfl) (fun _ _ _ h=>h) (Or.inr ⟨by rfl,rfl⟩) ?_ ?_
      rotate_left
      · simp only [Act.put,List.setIfInBounds_toArray,List.set_cons_zero,List.set_cons_succ]
        rfl
      refine pure_ (i:=25) (N:=some 58) (v:=undef) (a':=?_) #[true,true,true,true,true,true,true,true,true,true,true,true,true,true,true,true,true,true,true,true,true,true,true,true,true,true,false] rfl rfl (by kernel_rfl) (fun _ _ _ h=>h) (Or.inr ⟨by rfl,rfl⟩) ?_ ?_
      rotate_left
      · simp only [Act.put,List.setIfInBounds_toArray,List.set_cons_zero,List.set_cons_succ]
        rfl
      refine pure_ (i:=26) (N:=some 59) (v:=?_) (a':=?_) #[true,true,true,true,true,true,true,true,true,true,true,true,true,true,true,true,true,true,true,true,true,true,true,true,true,true,true] rfl rfl (by kernel_rfl) (fun _ _ _ h=>h) (Or.inl ⟨by rfl,?_⟩) ?_ ?_
      rotate_left
      · intro w'
        go_simp
        try (with_reducible rfl)
      rotate_left
      · simp only [Act.put,List.setIfInBounds_toArray,List.set_cons_zero,List.set_cons_succ]
        rfl
      refine done_ (by kernel_rfl) ?_
      go_wp2
      (refine bodyPost_ret (v:=.tuple #[]) (by simp [results,Try.results62,go_sem]) rfl ⟨⟨_,rfl⟩,xs,m,isRecs_uniq _ _ _ _ _ (by have hE:=HE.out [] (recAt_none_of Hn.out (.inl (by omega)));rw [List.append_nil] at hE;exact hE) (isRecs_recs b),hJ _ _ _ _ HJ.out (grown_of_below (by repeat (first|exact Below.refl _ _|apply below_drew)))⟩)
    · have z0:((n:Int) == 0)=false:=by rw [beq_eq_false_iff_ne];omega
      have z1:((n:Int)=0)=False:=eq_false (by omega)
      have z1':(n=0)=False:=eq_false hz
      by_cases hz2:4096 < n
      · have z2:decide ((n:Int) > 4096)=true:=decide_eq_true (by omega)
        have z3:((n:Int) > 4096)=True:=eq_true (by omega)
        have z4:(4096 < (n:Int))=True:=eq_true (by omega)
        have z5:(4096 < n)=True:=eq_true hz2
        refine start_ (n:=27) (S:=fun w'=>w'.cell? ⟨Bx,0,none⟩=some (.slice (some ad) b.length c)) (ds:=[]) #[false,false,false,false,false,false,false,false,false,false,false,false,false,false,false,false,false,false,false,false,false,false,false,false,false,false,false] (by kernel_rfl) rfl rfl (by exact (blk_cell HBe.out 0).trans rfl) ?_
        intro hHeld
        refine pure_ (i:=0) (N:=some 33) (v:=?_) (a':=?_) #[true,false,false,false,false,false,false,false,false,false,false,false,false,false,false,false,false,false,false,false,false,false,false,false,false,false,false] rfl rfl (by kernel_rfl) (fun _ _ _ h=>h) (Or.inl ⟨by rfl,?_⟩) ?_ ?_
        rotate_left
        · intro w'
          go_simp
          try (with_reducible rfl)
        rotate_left
        · simp only [Act.put,List.setIfInBounds_toArray,List.set_cons_zero,List.set_cons_succ]
          rfl
        refine pure_ (i:=1) (N:=some 34) (v:=?_) (a':=?_) #[true,true,false,false,false,false,false,false,false,false,false,false,false,false,false,false,false,false,false,false,false,false,false,false,false,false,false] rfl rfl (by kernel_rfl) (fun _ _ _ h=>h) (Or.inl ⟨by rfl,?_⟩) ?_ ?_
        rotate_left
        · intro w'
          go_simp
          try (with_reducible rfl)
        rotate_left
        · simp only [Act.put,List.setIfInBounds_toArray,List.set_cons_zero,List.set_cons_succ]
          rfl
        refine pure_ (i:=2) (N:=some 35) (v:=?_) (a':=?_) #[true,true,true,false,false,false,false,false,false,false,false,false,false,false,false,false,false,false,false,false,false,false,false,false,false,false,false] rfl rfl (by kernel_rfl) (fun _ _ _ h=>h) (Or.inl ⟨by rfl,?_⟩) ?_ ?_
        rotate_left
        · intro w'
          go_simp
          try (with_reducible rfl)
        rotate_left
        · simp only [Act.put,List.setIfInBounds_toArray,List.set_cons_zero,List.set_cons_succ]
          rfl
        refine pure_ (i:=3) (N:=some 36) (v:=?_) (a':=?_) #[true,true,true,true,false,false,false,false,false,false,false,false,false,false,false,false,false,false,false,false,false,false,false,false,false,false,false] rfl rfl (by kernel_rfl) (fun _ _ _ h=>h) (Or.inl ⟨by rfl,?_⟩) ?_ ?_
        rotate_left
        · intro w'
          go_simp
          try (with_reducible rfl)
        rotate_left
        · simp only [Act.put,List.setIfInBounds_toArray,List.set_cons_zero,List.set_cons_succ]
          rfl
        refine pure_ (i:=4) (N:=some 37) (v:=?_) (a':=?_) #[true,true,true,true,true,false,false,false,false,false,false,false,false,false,false,false,false,false,false,false,false,false,false,false,false,false,false] rfl rfl (by kernel_rfl) (fun _ _ _ h=>h) (Or.inl ⟨by rfl,?_⟩) ?_ ?_
        rotate_left
        · intro w'
          go_simp
          try (with_reducible rfl)
        rotate_left
        · simp only [Act.put,List.setIfInBounds_toArray,List.set_cons_zero,List.set_cons_succ]
          rfl
        refine pure_ (i:=5) (N:=some 38) (v:=?_) (a':=?_) #[true,true,true,true,true,true,false,false,false,false,false,false,false,false,false,false,false,false,false,false,false,false,false,false,false,false,false] rfl rfl (by kernel_rfl) (fun _ _ _ h=>h) (Or.inl ⟨by rfl,?_⟩) ?_ ?_
        rotate_left
        · intro w'
          go_simp
          try (with_reducible rfl)
        rotate_left
        · simp only [Act.put,List.setIfInBounds_toArray,List.set_cons_zero,List.set_cons_succ]
          rfl
        refine pure_ (i:=6) (N:=some 39) (v:=?_) (a':=?_) #[true,true,true,true,true,true,true,false,false,false,false,false,false,false,false,false,false,false,false,false,false,false,false,false,false,false,false] rfl rfl (by kernel_rfl) (fun _ _ _ h=>h) (Or.inl ⟨by rfl,?_⟩) ?_ ?_
        rotate_left
        · intro w'
          go_simp
          try (with_reducible rfl)
        rotate_left
        · simp only [Act.put,List.setIfInBounds_toArray,List.set_cons_zero,List.set_cons_succ]
          rfl
        refine pure_ (i:=7) (N:=some 40) (v:=undef) (a':=?_) #[true,true,true,true,true,true,true,true,false,false,false,false,false,false,false,false,false,false,false,false,false,false,false,false,false,false,false] rfl rfl (by kernel_rfl) (fun _ _ _ h=>h) (Or.inr ⟨by rfl,rfl⟩) ?_ ?_
        rotate_left
        · simp only [Act.put,List.setIfInBounds_toArray,List.set_cons_zero,List.set_cons_succ]
          rfl
        refine pure_ (i:=8) (N:=some 41) (v:=undef) (a':=?_) #[true,true,true,true,true,true,true,true,true,false,false,false,false,false,false,false,false,false,false,false,false,false,false,false,false,false,false] rfl rfl (by kernel_rfl) (fun _ _ _ h=>h) (Or.inr ⟨by rfl,rfl⟩) ?_ ?_
        rotate_left
        · simp only [Act.put,List.setIfInBounds_toArray,List.set_cons_zero,List.set_cons_succ]
          rfl
        refine pure_ (i:=9) (N:=some 42) (v:=undef) (a':=?_) #[true,true,true,true,true,true,true,true,true,true,false,false,false,false,false,false,false,false,false,false,false,false,false,false,false,false,false] rfl rfl (by kernel_rfl) (fun _ _ _ h=>h) (Or.inr ⟨by rfl,rfl⟩) ?_ ?_
        rotate_left
        · simp only [Act.put,List.setIfInBounds_toArray,List.set_cons_zero,List.set_cons_succ]
          rfl
        refine pure_ (i:=10) (N:=some 43) (v:=undef) (a':=?_) #[true,true,true,true,true,true,true,true,true,true,true,false,false,false,false,false,false,false,false,false,false,false,false,false,false,false,false] rfl rfl (by kernel_rfl) (fun _ _ _ h=>h) (Or.inr ⟨by rfl,rfl⟩) ?_ ?_
        rotate_left
        · simp only [Act.put,List.setIfInBounds_toArray,List.set_cons_zero,List.set_cons_succ]
          rfl
        refine pure_ (i:=11) (N:=some 44) (v:=?_) (a':=?_) #[true,true,true,true,true,true,true,true,true,true,true,true,false,false,false,false,false,false,false,false,false,false,false,false,false,false,false] rfl rfl (by kernel_rfl) (fun _ _ _ h=>h) (Or.inl ⟨by rfl,?_⟩) ?_ ?_
        rotate_left
        · intro w'
          go_simp
          try (with_reducible rfl)
        rotate_left
        · simp only [Act.put,List.setIfInBounds_toArray,List.set_cons_zero,List.set_cons_succ]
          rfl
        refine pure_ (i:=12) (N:=some 45) (v:=?_) (a':=?_) #[true,true,true,true,true,true,true,true,true,true,true,true,true,false,false,false,false,false,false,false,false,false,false,false,false,false,false] rfl rfl (by kernel_rfl) (fun _ _ _ h=>h) (Or.inl ⟨by rfl,?_⟩) ?_ ?_
        rotate_left
        · intro w'
          go_simp
          try (with_reducible rfl)
        rotate_left
        · simp only [Act.put,List.setIfInBounds_toArray,List.set_cons_zero,List.set_cons_succ]
          rfl
        refine pure_ (i:=13) (N:=some 46) (v:=undef) (a':=?_) #[true,true,true,true,true,true,true,true,true,true,true,true,true,true,false,false,false,false,false,false,false,false,false,false,false,false,false] rfl rfl (by kernel_rfl) (fun _ _ _ h=>h) (Or.inr ⟨by rfl,rfl⟩) ?_ ?_
        rotate_left
        · simp only [Act.put,List.setIfInBounds_toArray,List.set_cons_zero,List.set_cons_succ]
          rfl
        refine pure_ (i:=14) (N:=some 47) (v:=undef) (a':=?_) #[true,true,true,true,true,true,true,true,true,true,true,true,true,true,true,false,false,false,false,false,false,false,false,false,false,false,false] rfl rfl (by kernel_rfl) (fun _ _ _ h=>h) (Or.inr ⟨by rfl,rfl⟩) ?_ ?_
        rotate_left
        · simp only [Act.put,List.setIfInBounds_toArray,List.set_cons_zero,List.set_cons_succ]
          rfl
        refine pure_ (i:=15) (N:=some 48) (v:=undef) (a':=?_) #[true,true,true,true,true,true,true,true,true,true,true,true,true,true,true,true,false,false,false,false,false,false,false,false,false,false,false] rfl rfl (by kernel_rfl) (fun _ _ _ h=>h) (Or.inr ⟨by rfl,rfl⟩) ?_ ?_
        rotate_left
        · simp only [Act.put,List.setIfInBounds_toArray,List.set_cons_zero,List.set_cons_succ]
          rfl
        refine pure_ (i:=16) (N:=some 49) (v:=undef) (a':=?_) #[true,true,true,true,true,true,true,true,true,true,true,true,true,true,true,true,true,false,false,false,false,false,false,false,false,false,false] rfl rfl (by kernel_rfl) (fun _ _ _ h=>h) (Or.inr ⟨by rfl,rfl⟩) ?_ ?_
        rotate_left
        · simp only [Act.put,List.setIfInBounds_toArray,List.set_cons_zero,List.set_cons_succ]
          rfl
        refine pure_ (i:=17) (N:=some 50) (v:=undef) (a':=?_) #[true,true,true,true,true,true,true,true,true,true,true,true,true,true,true,true,true,true,false,false,false,false,false,false,false,false,false] rfl rfl (by kernel_rfl) (fun _ _ _ h=>h) (Or.inr ⟨by rfl,rfl⟩) ?_ ?_
        rotate_left
        · simp only [Act.put,List.setIfInBounds_toArray,List.set_cons_zero,List.set_cons_succ]
          rfl
        refine pure_ (i:=18) (N:=some 51) (v:=undef) (a':=?_) #[true,true,true,true,true,true,true,true,true,true,true,true,true,true,true,true,true,true,true,false,false,false,false,false,false,false,false] rfl rfl (by kernel_rfl) (fun _ _ _ h=>h) (Or.inr ⟨by rfl,rfl⟩) ?_ ?_
        rotate_left
        · simp only [Act.put,List.setIfInBounds_toArray,List.set_cons_zero,List.set_cons_succ]
          rfl
        refine pure_ (i:=19) (N:=some 52) (v:=undef) (a':=?_) #[true,true,true,true,true,true,true,true,true,true,true,true,true,true,true,true,true,true,true,true,false,false,false,false,false,false,false] rfl rfl (by kernel_rfl) (fun _ _ _ h=>h) (Or.inr ⟨by rfl,rfl⟩) ?_ ?_
        rotate_left
        · simp only [Act.put,List.setIfInBounds_toArray,List.set_cons_zero,List.set_cons_succ]
          rfl
        refine pure_ (i:=20) (N:=some 53) (v:=undef) (a':=?_) #[true,true,true,true,true,true,true,true,true,true,true,true,true,true,true,true,true,true,true,true,true,false,false,false,false,false,false] rfl rfl (by kernel_rfl) (fun _ _ _ h=>h) (Or.inr ⟨by rfl,rfl⟩) ?_ ?_
        rotate_left
        · simp only [Act.put,List.setIfInBounds_toArray,List.set_cons_zero,List.set_cons_succ]
          rfl
        refine pure_ (i:=21) (N:=some 54) (v:=undef) (a':=?_) #[true,true,true,true,true,true,true,true,true,true,true,true,true,true,true,true,true,true,true,true,true,true,false,false,false,false,false] rfl rfl (by kernel_rfl) (fun _ _ _ h=>h) (Or.inr ⟨by rfl,rfl⟩) ?_ ?_
        rotate_left
        · simp only [Act.put,List.setIfInBounds_toArray,List.set_cons_zero,List.set_cons_succ]
          rfl
        refine pure_ (i:=22) (N:=some 55) (v:=undef) (a':=?_) #[true,true,true,true,true,true,true,true,true,true,true,true,true,true,true,true,true,true,true,true,true,true,true,false,false,false,false] rfl rfl (by kernel_rfl) (fun _ _ _ h=>h) (Or.inr ⟨by rfl,rfl⟩) ?_ ?_
        rotate_left
        · simp only [Act.put,List.setIfInBounds_toArray,List.set_cons_zero,List.set_cons_succ]
          rfl
        refine pure_ (i:=23) (N:=some 56) (v:=undef) (a':=?_) #[true,true,true,true,true,true,true,true,true,true,true,true,true,true,true,true,true,true,true,true,true,true,true,true,false,false,false] rfl rfl (by kernel_rfl) (fun _ _ _ h=>h) (Or.inr ⟨by rfl,rfl⟩) ?_ ?_
        rotate_left
        · simp only [Act.put,List.setIfInBounds_toArray,List.set_cons_zero,List.set_cons_succ]
          rfl
        refine pure_ (i:=24) (N:=some 57) (v:=undef) (a':=?_) #[true,true,true,true,true,true,true,true,true,true,true,true,true,true,true,true,true,true,true,true,true,true,true,true,true,false,false] rfl rfl (by kernel_rfl) (fun _ _ _ h=>h) (Or.inr ⟨by rfl,rfl⟩) ?_ ?_
        rotate_left
        · simp only [Act.put,List.setIfInBounds_toArray,List.set_cons_zero,List.set_cons_succ]
          rfl
        refine pure_ (i:=25) (N:=some 58) (v:=undef) (a':=?_) #[true,true,true,true,true,true,true,true,true,true,true,true,true,true,true,true,true,true,true,true,true,true,true,true,true,true,false] rfl rfl (by kernel_rfl) (fun _ _ _ h=>h) (Or.inr ⟨by rfl,rfl⟩) ?_ ?_
        rotate_left
        · simp only [Act.put,List.setIfInBounds_toArray,List.set_cons_zero,List.set_cons_succ]
          rfl
        refine pure_ (i:=26) (N:=some 59) (v:=?_) (a':=?_) #[true,true,true,true,true,true,true,true,true,true,true,true,true,true,true,true,true,true,true,true,true,true,true,true,true,true,true] rfl rfl (by kernel_rfl) (fun _ _ _ h=>h) (Or.inl ⟨by rfl,?_⟩) ?_ ?_
        rotate_left
        · intro w'
          go_simp
          try (with_reducible rfl)
        rotate_left
        · simp only [Act.put,List.setIfInBounds_toArray,List.set_cons_zero,List.set_cons_succ]
          rfl
        refine done_ (by kernel_rfl) ?_
        go_wp2
        (refine bodyPost_ret (v:=.tuple #[]) (by simp [results,Try.results62,go_sem]) rfl ⟨⟨_,rfl⟩,xs,m,isRecs_uniq _ _ _ _ _ (by have hE:=HE.out [] (recAt_none_of Hn.out (.inr (.inl (by omega))));rw [List.append_nil] at hE;exact hE) (isRecs_recs b),hJ _ _ _ _ HJ.out (grown_of_below (by repeat (first|exact Below.refl _ _|apply below_drew)))⟩)
      · have z3:((n:Int) > 4096)=False:=eq_false (by omega)
        have z4:(4096 < (n:Int))=False:=eq_false (by omega)
        have z5:(4096 < n)=False:=eq_false hz2
        by_cases hz6:b.length < at_ + 13 + n
        · have z6:((at_:Int) + 13 + (n:Int) > (b.length:Int))=True:=eq_true (by omega)
          have z7:((b.length:Int) < (at_:Int) + 13 + (n:Int))=True:=eq_true (by omega)
          refine start_ (n:=27) (S:=fun w'=>w'.cell? ⟨Bx,0,none⟩=some (.slice (some ad) b.length c)) (ds:=[]) #[false,false,false,false,false,false,false,false,false,false,false,false,false,false,false,false,false,false,false,false,false,false,false,false,false,false,false] (by kernel_rfl) rfl rfl (by exact (blk_cell HBe.out 0).trans rfl) ?_
          intro hHeld
          refine pure_ (i:=0) (N:=some 33) (v:=?_) (a':=?_) #[true,false,false,false,false,false,false,false,false,false,false,false,false,false,false,false,false,false,false,false,false,false,false,false,false,false,false] rfl rfl (by kernel_rfl) (fun _ _ _ h=>h) (Or.inl ⟨by rfl,?_⟩) ?_ ?_
          rotate_left
          · intro w'
            go_simp
            try (with_reducible rfl)
          rotate_left
          · simp only [Act.put,List.setIfInBounds_toArray,List.set_cons_zero,List.set_cons_succ]
            rfl
          refine pure_ (i:=1) (N:=some 34) (v:=?_) (a':=?_) #[true,true,false,false,false,false,false,false,false,false,false,false,false,false,false,false,false,false,false,false,false,false,false,false,false,false,false] rfl rfl (by kernel_rfl) (fun _ _ _ h=>h) (Or.inl ⟨by rfl,?_⟩) ?_ ?_
          rotate_left
          · intro w'
            go_simp
            try (with_reducible rfl)
          rotate_left
          · simp only [Act.put,List.setIfInBounds_toArray,List.set_cons_zero,List.set_cons_succ]
            rfl
          refine pure_ (i:=2) (N:=some 35) (v:=?_) (a':=?_) #[true,true,true,false,false,false,false,false,false,false,false,false,false,false,false,false,false,false,false,false,false,false,false,false,false,false,false] rfl rfl (by kernel_rfl) (fun _ _ _ h=>h) (Or.inl ⟨by rfl,?_⟩) ?_ ?_
          rotate_left
          · intro w'
            go_simp
            try (with_reducible rfl)
          rotate_left
          · simp only [Act.put,List.setIfInBounds_toArray,List.set_cons_zero,List.set_cons_succ]
            rfl
          refine pure_ (i:=3) (N:=some 36) (v:=?_) (a':=?_) #[true,true,true,true,false,false,false,false,false,false,false,false,false,false,false,false,false,false,false,false,false,false,false,false,false,false,false] rfl rfl (by kernel_rfl) (fun _ _ _ h=>h) (Or.inl ⟨by rfl,?_⟩) ?_ ?_
          rotate_left
          · intro w'
            go_simp
            try (with_reducible rfl)
          rotate_left
          · simp only [Act.put,List.setIfInBounds_toArray,List.set_cons_zero,List.set_cons_succ]
            rfl
          refine pure_ (i:=4) (N:=some 37) (v:=?_) (a':=?_) #[true,true,true,true,true,false,false,false,false,false,false,false,false,false,false,false,false,false,false,false,false,false,false,false,false,false,false] rfl rfl (by kernel_rfl) (fun _ _ _ h=>h) (Or.inl ⟨by rfl,?_⟩) ?_ ?_
          rotate_left
          · intro w'
            go_simp
            try (with_reducible rfl)
          rotate_left
          · simp only [Act.put,List.setIfInBounds_toArray,List.set_cons_zero,List.set_cons_succ]
            rfl
          refine pure_ (i:=5) (N:=some 38) (v:=?_) (a':=?_) #[true,true,true,true,true,true,false,false,false,false,false,false,false,false,false,false,false,false,false,false,false,false,false,false,false,false,false] rfl rfl (by kernel_rfl) (fun _ _ _ h=>h) (Or.inl ⟨by rfl,?_⟩) ?_ ?_
          rotate_left
          · intro w'
            go_simp
            try (with_reducible rfl)
          rotate_left
          · simp only [Act.put,List.setIfInBounds_toArray,List.set_cons_zero,List.set_cons_succ]
            rfl
          refine pure_ (i:=6) (N:=some 39) (v:=?_) (a':=?_) #[true,true,true,true,true,true,true,false,false,false,false,false,false,false,false,false,false,false,false,false,false,false,false,false,false,false,false] rfl rfl (by kernel_rfl) (fun _ _ _ h=>h) (Or.inl ⟨by rfl,?_⟩) ?_ ?_
          rotate_left
          · intro w'
            go_simp
            try (with_reducible rfl)
          rotate_left
          · simp only [Act.put,List.setIfInBounds_toArray,List.set_cons_zero,List.set_cons_succ]
            rfl
          refine pure_ (i:=7) (N:=some 40) (v:=?_) (a':=?_) #[true,true,true,true,true,true,true,true,false,false,false,false,false,false,false,false,false,false,false,false,false,false,false,false,false,false,false] rfl rfl (by kernel_rfl) (fun _ _ _ h=>h) (Or.inl ⟨by rfl,?_⟩) ?_ ?_
          rotate_left
          · intro w'
            go_simp
            try (with_reducible rfl)
          rotate_left
          · simp only [Act.put,List.setIfInBounds_toArray,List.set_cons_zero,List.set_cons_succ]
            rfl
          refine take_ (i:=8) (N:=some 41) (v:=?_) (a':=?_) #[true,true,true,true,true,true,true,true,true,false,false,false,false,false,false,false,false,false,false,false,false,false,false,false,false,false,false] rfl rfl (by kernel_rfl) (fun _ _ _ h=>h) (Or.inl ⟨by rfl,?_⟩) hHeld ?_ ?_
          rotate_left
          · intro w' s0
            go_simp
            with_reducible rfl
          rotate_left
          · simp only [Act.put,List.setIfInBounds_toArray,List.set_cons_zero,List.set_cons_succ]
            rfl
          refine pure_ (i:=9) (N:=some 42) (v:=?_) (a':=?_) #[true,true,true,true,true,true,true,true,true,true,false,false,false,false,false,false,false,false,false,false,false,false,false,false,false,false,false] rfl rfl (by kernel_rfl) (fun _ _ _ h=>h) (Or.inl ⟨by rfl,?_⟩) ?_ ?_
          rotate_left
          · intro w'
            go_simp
            try (with_reducible rfl)
          rotate_left
          · simp only [Act.put,List.setIfInBounds_toArray,List.set_cons_zero,List.set_cons_succ]
            rfl
          refine pure_ (i:=10) (N:=some 43) (v:=?_) (a':=?_) #[true,true,true,true,true,true,true,true,true,true,true,false,false,false,false,false,false,false,false,false,false,false,false,false,false,false,false] rfl rfl (by kernel_rfl) (fun _ _ _ h=>h) (Or.inl ⟨by rfl,?_⟩) ?_ ?_
          rotate_left
          · intro w'
            go_simp
            try (with_reducible rfl)
          rotate_left
          · simp only [Act.put,List.setIfInBounds_toArray,List.set_cons_zero,List.set_cons_succ]
            rfl
          refine pure_ (i:=11) (N:=some 44) (v:=?_) (a':=?_) #[true,true,true,true,true,true,true,true,true,true,true,true,false,false,false,false,false,false,false,false,false,false,false,false,false,false,false] rfl rfl (by kernel_rfl) (fun _ _ _ h=>h) (Or.inl ⟨by rfl,?_⟩) ?_ ?_
          rotate_left
          · intro w'
            go_simp
            try (with_reducible rfl)
          rotate_left
          · simp only [Act.put,List.setIfInBounds_toArray,List.set_cons_zero,List.set_cons_succ]
            rfl
          refine pure_ (i:=12) (N:=some 45) (v:=?_) (a':=?_) #[true,true,true,true,true,true,true,true,true,true,true,true,true,false,false,false,false,false,false,false,false,false,false,false,false,false,false] rfl rfl (by kernel_rfl) (fun _ _ _ h=>h) (Or.inl ⟨by rfl,?_⟩) ?_ ?_
          rotate_left
          · intro w'
            go_simp
            try (with_reducible rfl)
          rotate_left
          · simp only [Act.put,List.setIfInBounds_toArray,List.set_cons_zero,List.set_cons_succ]
            rfl
          refine pure_ (i:=13) (N:=some 46) (v:=undef) (a':=?_) #[true,true,true,true,true,true,true,true,true,true,true,true,true,true,false,false,false,false,false,false,false,false,false,false,false,false,false] rfl rfl (by kernel_rfl) (fun _ _ _ h=>h) (Or.inr ⟨by rfl,rfl⟩) ?_ ?_
          rotate_left
          · simp only [Act.put,List.setIfInBounds_toArray,List.set_cons_zero,List.set_cons_succ]
            rfl
          refine pure_ (i:=14) (N:=some 47) (v:=undef) (a':=?_) #[true,true,true,true,true,true,true,true,true,true,true,true,true,true,true,false,false,false,false,false,false,false,false,false,false,false,false] rfl rfl (by kernel_rfl) (fun _ _ _ h=>h) (Or.inr ⟨by rfl,rfl⟩) ?_ ?_
          rotate_left
          · simp only [Act.put,List.setIfInBounds_toArray,List.set_cons_zero,List.set_cons_succ]
            rfl
          refine pure_ (i:=15) (N:=some 48) (v:=undef) (a':=?_) #[true,true,true,true,true,true,true,true,true,true,true,true,true,true,true,true,false,false,false,false,false,false,false,false,false,false,false] rfl rfl (by kernel_rfl) (fun _ _ _ h=>h) (Or.inr ⟨by rfl,rfl⟩) ?_ ?_
          rotate_left
          · simp only [Act.put,List.setIfInBounds_toArray,List.set_cons_zero,List.set_cons_succ]
            rfl
          refine pure_ (i:=16) (N:=some 49) (v:=undef) (a':=?_) #[true,true,true,true,true,true,true,true,true,true,true,true,true,true,true,true,true,false,false,false,false,false,false,false,false,false,false] rfl rfl (by kernel_rfl) (fun _ _ _ h=>h) (Or.inr ⟨by rfl,rfl⟩) ?_ ?_
          rotate_left
          · simp only [Act.put,List.setIfInBounds_toArray,List.set_cons_zero,List.set_cons_succ]
            rfl
          refine pure_ (i:=17) (N:=some 50) (v:=undef) (a':=?_) #[true,true,true,true,true,true,true,true,true,true,true,true,true,true,true,true,true,true,false,false,false,false,false,false,false,false,false] rfl rfl (by kernel_rfl) (fun _ _ _ h=>h) (Or.inr ⟨by rfl,rfl⟩) ?_ ?_
          rotate_left
          · simp only [Act.put,List.setIfInBounds_toArray,List.set_cons_zero,List.set_cons_succ]
            rfl
          refine pure_ (i:=18) (N:=some 51) (v:=undef) (a':=?_) #[true,true,true,true,true,true,true,true,true,true,true,true,true,true,true,true,true,true,true,false,false,false,false,false,false,false,false] rfl rfl (by kernel_rfl) (fun _ _ _ h=>h) (Or.inr ⟨by rfl,rfl⟩) ?_ ?_
          rotate_left
          · simp only [Act.put,List.setIfInBounds_toArray,List.set_cons_zero,List.set_cons_succ]
            rfl
          refine pure_ (i:=19) (N:=some 52) (v:=undef) (a':=?_) #[true,true,true,true,true,true,true,true,true,true,true,true,true,true,true,true,true,true,true,true,false,false,false,false,false,false,false] rfl rfl (by kernel_rfl) (fun _ _ _ h=>h) (Or.inr ⟨by rfl,rfl⟩) ?_ ?_
          rotate_left
          · simp only [Act.put,List.setIfInBounds_toArray,List.set_cons_zero,List.set_cons_succ]
            rfl
          refine pure_ (i:=20) (N:=some 53) (v:=undef) (a':=?_) #[true,true,true,true,true,true,true,true,true,true,true,true,true,true,true,true,true,true,true,true,true,false,false,false,false,false,false] rfl rfl (by kernel_rfl) (fun _ _ _ h=>h) (Or.inr ⟨by rfl,rfl⟩) ?_ ?_
          rotate_left
          · simp only [Act.put,List.setIfInBounds_toArray,List.set_cons_zero,List.set_cons_succ]
            rfl
          refine pure_ (i:=21) (N:=some 54) (v:=undef) (a':=?_) #[true,true,true,true,true,true,true,true,true,true,true,true,true,true,true,true,true,true,true,true,true,true,false,false,false,false,false] rfl rfl (by kernel_rfl) (fun _ _ _ h=>h) (Or.inr ⟨by rfl,rfl⟩) ?_ ?_
          rotate_left
          · simp only [Act.put,List.setIfInBounds_toArray,List.set_cons_zero,List.set_cons_succ]
            rfl
          refine pure_ (i:=22) (N:=some 55) (v:=undef) (a':=?_) #[true,true,true,true,true,true,true,true,true,true,true,true,true,true,true,true,true,true,true,true,true,true,true,false,false,false,false] rfl rfl (by kernel_rfl) (fun _ _ _ h=>h) (Or.inr ⟨by rfl,rfl⟩) ?_ ?_
          rotate_left
          · simp only [Act.put,List.setIfInBounds_toArray,List.set_cons_zero,List.set_cons_succ]
            rfl
          refine pure_ (i:=23) (N:=some 56) (v:=undef) (a':=?_) #[true,true,true,true,true,true,true,true,true,true,true,true,true,true,true,true,true,true,true,true,true,true,true,true,false,false,false] rfl rfl (by kernel_rfl) (fun _ _ _ h=>h) (Or.inr ⟨by rfl,rfl⟩) ?_ ?_
          rotate_left
          · simp only [Act.put,List.setIfInBounds_toArray,List.set_cons_zero,List.set_cons_succ]
            rfl
          refine pure_ (i:=24) (N:=some 57) (v:=undef) (a':=?_) #[true,true,true,true,true,true,true,true,true,true,true,true,true,true,true,true,true,true,true,true,true,true,true,true,true,false,false] rfl rfl (by kernel_rfl) (fun _ _ _ h=>h) (Or.inr ⟨by rfl,rfl⟩) ?_ ?_
          rotate_left
          · simp only [Act.put,List.setIfInBounds_toArray,List.set_cons_zero,List.set_cons_succ]
            rfl
          refine pure_ (i:=25) (N:=some 58) (v:=undef) (a':=?_) #[true,true,true,true,true,true,true,true,true,true,true,true,true,true,true,true,true,true,true,true,true,true,true,true,true,true,false] rfl rfl (by kernel_rfl) (fun _ _ _ h=>h) (Or.inr ⟨by rfl,rfl⟩) ?_ ?_
          rotate_left
          · simp only [Act.put,List.setIfInBounds_toArray,List.set_cons_zero,List.set_cons_succ]
            rfl
          refine pure_ (i:=26) (N:=some 59) (v:=?_) (a':=?_) #[true,true,true,true,true,true,true,true,true,true,true,true,true,true,true,true,true,true,true,true,true,true,true,true,true,true,true] rfl rfl (by kernel_rfl) (fun _ _ _ h=>h) (Or.inl ⟨by rfl,?_⟩) ?_ ?_
          rotate_left
          · intro w'
            go_simp
            try (with_reducible rfl)
          rotate_left
          · simp only [Act.put,List.setIfInBounds_toArray,List.set_cons_zero,List.set_cons_succ]
            rfl
          refine done_ (by kernel_rfl) ?_
          go_wp2
          (refine bodyPost_ret (v:=.tuple #[]) (by simp [results,Try.results62,go_sem]) rfl ⟨⟨_,rfl⟩,xs,m,isRecs_uniq _ _ _ _ _ (by have hE:=HE.out [] (recAt_none_of Hn.out (.inr (.inr (.inl (by omega)))));rw [List.append_nil] at hE;exact hE) (isRecs_recs b),hJ _ _ _ _ HJ.out (grown_of_below (by repeat (first|exact Below.refl _ _|apply below_drew)))⟩)
        · have z6:((at_:Int) + 13 + (n:Int) > (b.length:Int))=False:=eq_false (by omega)
          have z7:((b.length:Int) < (at_:Int) + 13 + (n:Int))=False:=eq_false (by omega)
          obtain ⟨d1,hcut1,hC1,hle1⟩:=cut_seg HC.out hbc (at_ + 13) (at_ + 13 + n) ((at_:Int) + 13) ((at_:Int) + 13 + (n:Int)) (by omega) (by omega) (by omega) (by omega)
          obtain ⟨d2,hcut2,hC2,hle2⟩:=cut_seg HC.out hbc at_ (at_ + 13 + n) (at_:Int) ((at_:Int) + 13 + (n:Int)) (by omega) (by omega) (by omega) (by omega)
          obtain ⟨R,hR⟩:∃ R,R=(b.take (at_ + 13 + n)).drop (at_ + 13):=⟨_,rfl⟩
          obtain ⟨G,hG⟩:∃ G,G=(b.take (at_ + 13 + n)).drop at_:=⟨_,rfl⟩
          rw [← hR] at hcut1 hC1 hle1
          rw [← hG] at hcut2 hC2 hle2
          have hRl:R.length=n:=by rw [hR,List.length_drop,List.length_take];omega
          obtain ⟨ke,hke⟩:=(encode_ev R (kk:Int) (by omega)).rounds
          have HR:=Lib.hid hR
          have HG:=Lib.hid hG
          have HCa:=Lib.hid hC1
          have HCb:=Lib.hid hC2
          have HRl:=Lib.hid hRl
          clear hR hG hC1 hC2 hRl
          refine start_ (n:=27) (S:=fun w'=>w'.cell? ⟨Bx,0,none⟩=some (.slice (some ad) b.length c)) (ds:=[]) #[false,false,false,false,false,false,false,false,false,false,false,false,false,false,false,false,false,false,false,false,false,false,false,false,false,false,false] (by kernel_rfl) rfl rfl (by exact (blk_cell HBe.out 0).trans rfl) ?_
          intro hHeld
          refine pure_ (i:=0) (N:=some 33) (v:=?_) (a':=?_) #[true,false,false,false,false,false,false,false,false,false,false,false,false,false,false,false,false,false,false,false,false,false,false,false,false,false,false] rfl rfl (by kernel_rfl) (fun _ _ _ h=>h) (Or.inl ⟨by rfl,?_⟩) ?_ ?_
          rotate_left
          · intro w'
            go_simp
            try (with_reducible rfl)
          rotate_left
          · simp only [Act.put,List.setIfInBounds_toArray,List.set_cons_zero,List.set_cons_succ]
            rfl
          refine pure_ (i:=1) (N:=some 34) (v:=?_) (a':=?_) #[true,true,false,false,false,false,false,false,false,false,false,false,false,false,false,false,false,false,false,false,false,false,false,false,false,false,false] rfl rfl (by kernel_rfl) (fun _ _ _ h=>h) (Or.inl ⟨by rfl,?_⟩) ?_ ?_
          rotate_left
          · intro w'
            go_simp
            try (with_reducible rfl)
          rotate_left
          · simp only [Act.put,List.setIfInBounds_toArray,List.set_cons_zero,List.set_cons_succ]
            rfl
          refine pure_ (i:=2) (N:=some 35) (v:=?_) (a':=?_) #[true,true,true,false,false,false,false,false,false,false,false,false,false,false,false,false,false,false,false,false,false,false,false,false,false,false,false] rfl rfl (by kernel_rfl) (fun _ _ _ h=>h) (Or.inl ⟨by rfl,?_⟩) ?_ ?_
          rotate_left
          · intro w'
            go_simp
            try (with_reducible rfl)
          rotate_left
          · simp only [Act.put,List.setIfInBounds_toArray,List.set_cons_zero,List.set_cons_succ]
            rfl
          refine pure_ (i:=3) (N:=some 36) (v:=?_) (a':=?_) #[true,true,true,true,false,false,false,false,false,false,false,false,false,false,false,false,false,false,false,false,false,false,false,false,false,false,false] rfl rfl (by kernel_rfl) (fun _ _ _ h=>h) (Or.inl ⟨by rfl,?_⟩) ?_ ?_
          rotate_left
          · intro w'
            go_simp
            try (with_reducible rfl)
          rotate_left
          · simp only [Act.put,List.setIfInBounds_toArray,List.set_cons_zero,List.set_cons_succ]
            rfl
          refine pure_ (i:=4) (N:=some 37) (v:=?_) (a':=?_) #[true,true,true,true,true,false,false,false,false,false,false,false,false,false,false,false,false,false,false,false,false,false,false,false,false,false,false] rfl rfl (by kernel_rfl) (fun _ _ _ h=>h) (Or.inl ⟨by rfl,?_⟩) ?_ ?_
          rotate_left
          · intro w'
            go_simp
            try (with_reducible rfl)
          rotate_left
          · simp only [Act.put,List.setIfInBounds_toArray,List.set_cons_zero,List.set_cons_succ]
            rfl
          refine pure_ (i:=5) (N:=some 38) (v:=?_) (a':=?_) #[true,true,true,true,true,true,false,false,false,false,false,false,false,false,false,false,false,false,false,false,false,false,false,false,false,false,false] rfl rfl (by kernel_rfl) (fun _ _ _ h=>h) (Or.inl ⟨by rfl,?_⟩) ?_ ?_
          rotate_left
          · intro w'
            go_simp
            try (with_reducible rfl)
          rotate_left
          · simp only [Act.put,List.setIfInBounds_toArray,List.set_cons_zero,List.set_cons_succ]
            rfl
          refine pure_ (i:=6) (N:=some 39) (v:=?_) (a':=?_) #[true,true,true,true,true,true,true,false,false,false,false,false,false,false,false,false,false,false,false,false,false,false,false,false,false,false,false] rfl rfl (by kernel_rfl) (fun _ _ _ h=>h) (Or.inl ⟨by rfl,?_⟩) ?_ ?_
          rotate_left
          · intro w'
            go_simp
            try (with_reducible rfl)
          rotate_left
          · simp only [Act.put,List.setIfInBounds_toArray,List.set_cons_zero,List.set_cons_succ]
            rfl
          refine pure_ (i:=7) (N:=some 40) (v:=?_) (a':=?_) #[true,true,true,true,true,true,true,true,false,false,false,false,false,false,false,false,false,false,false,false,false,false,false,false,false,false,false] rfl rfl (by kernel_rfl) (fun _ _ _ h=>h) (Or.inl ⟨by rfl,?_⟩) ?_ ?_
          rotate_left
          · intro w'
            go_simp
            try (with_reducible rfl)
          rotate_left
          · simp only [Act.put,List.setIfInBounds_toArray,List.set_cons_zero,List.set_cons_succ]
            rfl
          refine take_ (i:=8) (N:=some 41) (v:=?_) (a':=?_) #[true,true,true,true,true,true,true,true,true,false,false,false,false,false,false,false,false,false,false,false,false,false,false,false,false,false,false] rfl rfl (by kernel_rfl) (fun _ _ _ h=>h) (Or.inl ⟨by rfl,?_⟩) hHeld ?_ ?_
          rotate_left
          · intro w' s0
            go_simp
            with_reducible rfl
          rotate_left
          · simp only [Act.put,List.setIfInBounds_toArray,List.set_cons_zero,List.set_cons_succ]
            rfl
          refine pure_ (i:=9) (N:=some 42) (v:=?_) (a':=?_) #[true,true,true,true,true,true,true,true,true,true,false,false,false,false,false,false,false,false,false,false,false,false,false,false,false,false,false] rfl rfl (by kernel_rfl) (fun _ _ _ h=>h) (Or.inl ⟨by rfl,?_⟩) ?_ ?_
          rotate_left
          · intro w'
            go_simp
            try (with_reducible rfl)
          rotate_left
          · simp only [Act.put,List.setIfInBounds_toArray,List.set_cons_zero,List.set_cons_succ]
            rfl
          refine pure_ (i:=10) (N:=some 43) (v:=?_) (a':=?_) #[true,true,true,true,true,true,true,true,true,true,true,false,false,false,false,false,false,false,false,false,false,false,false,false,false,false,false] rfl rfl (by kernel_rfl) (fun _ _ _ h=>h) (Or.inl ⟨by rfl,?_⟩) ?_ ?_
          rotate_left
          · intro w'
            go_simp
            try (with_reducible rfl)
          rotate_left
          · simp only [Act.put,List.setIfInBounds_toArray,List.set_cons_zero,List.set_cons_succ]
            rfl
          refine pure_ (i:=11) (N:=some 44) (v:=?_) (a':=?_) #[true,true,true,true,true,true,true,true,true,true,true,true,false,false,false,false,false,false,false,false,false,false,false,false,false,false,false] rfl rfl (by kernel_rfl) (fun _ _ _ h=>h) (Or.inl ⟨by rfl,?_⟩) ?_ ?_
          rotate_left
          · intro w'
            go_simp
            try (with_reducible rfl)
          rotate_left
          · simp only [Act.put,List.setIfInBounds_toArray,List.set_cons_zero,List.set_cons_succ]
            rfl
          refine pure_ (i:=12) (N:=some 45) (v:=?_) (a':=?_) #[true,true,true,true,true,true,true,true,true,true,true,true,true,false,false,false,false,false,false,false,false,false,false,false,false,false,false] rfl rfl (by kernel_rfl) (fun _ _ _ h=>h) (Or.inl ⟨by rfl,?_⟩) ?_ ?_
          rotate_left
          · intro w'
            go_simp
            try (with_reducible rfl)
          rotate_left
          · simp only [Act.put,List.setIfInBounds_toArray,List.set_cons_zero,List.set_cons_succ]
            rfl
          refine pure_ (i:=14) (N:=some 47) (v:=?_) (a':=?_) #[true,true,true,true,true,true,true,true,true,true,true,true,true,false,true,false,false,false,false,false,false,false,false,false,false,false,false] rfl rfl (by kernel_rfl) (fun _ _ _ h=>h) (Or.inl ⟨by rfl,?_⟩) ?_ ?_
          rotate_left
          · intro w'
            go_simp
            try (with_reducible rfl)
          rotate_left
          · simp only [Act.put,List.setIfInBounds_toArray,List.set_cons_zero,List.set_cons_succ]
            rfl
          refine pure_ (i:=15) (N:=some 48) (v:=?_) (a':=?_) #[true,true,true,true,true,true,true,true,true,true,true,true,true,false,true,true,false,false,false,false,false,false,false,false,false,false,false] rfl rfl (by kernel_rfl) (fun _ _ _ h=>h) (Or.inl ⟨by rfl,?_⟩) ?_ ?_
          rotate_left
          · intro w'
            go_simp
            try (with_reducible rfl)
          rotate_left
          · simp only [Act.put,List.setIfInBounds_toArray,List.set_cons_zero,List.set_cons_succ]
            rfl
          refine pure_ (i:=16) (N:=some 49) (v:=?_) (a':=?_) #[true,true,true,true,true,true,true,true,true,true,true,true,true,false,true,true,true,false,false,false,false,false,false,false,false,false,false] rfl rfl (by kernel_rfl) (fun _ _ _ h=>h) (Or.inl ⟨by rfl,?_⟩) ?_ ?_
          rotate_left
          · intro w'
            go_simp
            try (with_reducible rfl)
          rotate_left
          · simp only [Act.put,List.setIfInBounds_toArray,List.set_cons_zero,List.set_cons_succ]
            rfl
          refine pure_ (i:=18) (N:=some 51) (v:=?_) (a':=?_) #[true,true,true,true,true,true,true,true,true,true,true,true,true,false,true,true,true,false,true,false,false,false,false,false,false,false,false] rfl rfl (by kernel_rfl) (fun _ _ _ h=>h) (Or.inl ⟨by rfl,?_⟩) ?_ ?_
          rotate_left
          · intro w'
            go_simp
            try (with_reducible rfl)
          rotate_left
          · simp only [Act.put,List.setIfInBounds_toArray,List.set_cons_zero,List.set_cons_succ]
            rfl
          refine pure_ (i:=21) (N:=some 54) (v:=?_) (a':=?_) #[true,true,true,true,true,true,true,true,true,true,true,true,true,false,true,true,true,false,true,false,false,true,false,false,false,false,false] rfl rfl (by kernel_rfl) (fun _ _ _ h=>h) (Or.inl ⟨by rfl,?_⟩) ?_ ?_
          rotate_left
          · intro w'
            go_simp
            try (with_reducible rfl)
          rotate_left
          · simp only [Act.put,List.setIfInBounds_toArray,List.set_cons_zero,List.set_cons_succ]
            rfl
          refine pure_ (i:=22) (N:=some 55) (v:=?_) (a':=?_) #[true,true,true,true,true,true,true,true,true,true,true,true,true,false,true,true,true,false,true,false,false,true,true,false,false,false,false] rfl rfl (by kernel_rfl) (fun _ _ _ h=>h) (Or.inl ⟨by rfl,?_⟩) ?_ ?_
          rotate_left
          · intro w'
            go_simp
            try (with_reducible rfl)
          rotate_left
          · simp only [Act.put,List.setIfInBounds_toArray,List.set_cons_zero,List.set_cons_succ]
            rfl
          refine take_ (i:=13) (N:=some 46) (v:=?_) (a':=?_) #[true,true,true,true,true,true,true,true,true,true,true,true,true,true,true,true,true,false,true,false,false,true,true,false,false,false,false] rfl rfl (by kernel_rfl) (fun _ _ _ h=>h) (Or.inl ⟨by rfl,?_⟩) hHeld ?_ ?_
          rotate_left
          · intro w' s0
            go_simp
            with_reducible rfl
          rotate_left
          · simp only [Act.put,List.setIfInBounds_toArray,List.set_cons_zero,List.set_cons_succ]
            rfl
          refine pure_ (i:=17) (N:=some 50) (v:=?_) (a':=?_) #[true,true,true,true,true,true,true,true,true,true,true,true,true,true,true,true,true,true,true,false,false,true,true,false,false,false,false] rfl rfl (by kernel_rfl) (fun _ _ _ h=>h) (Or.inl ⟨by rfl,?_⟩) ?_ ?_
          rotate_left
          · intro w'
            go_simp
            try (with_reducible rfl)
          rotate_left
          · simp only [Act.put,List.setIfInBounds_toArray,List.set_cons_zero,List.set_cons_succ]
            rfl
          refine take_ (i:=20) (N:=some 53) (v:=?_) (a':=?_) #[true,true,true,true,true,true,true,true,true,true,true,true,true,true,true,true,true,true,true,false,true,true,true,false,false,false,false] rfl rfl (by kernel_rfl) (fun _ _ _ h=>h) (Or.inl ⟨by rfl,?_⟩) hHeld ?_ ?_
          rotate_left
          · intro w' s0
            go_simp
            with_reducible rfl
          rotate_left
          · simp only [Act.put,List.setIfInBounds_toArray,List.set_cons_zero,List.set_cons_succ]
            rfl
          refine pure_ (i:=23) (N:=some 56) (v:=?_) (a':=?_) #[true,true,true,true,true,true,true,true,true,true,true,true,true,true,true,true,true,true,true,false,true,true,true,true,false,false,false] rfl rfl (by kernel_rfl) (fun _ _ _ h=>h) (Or.inl ⟨by rfl,?_⟩) ?_ ?_
          rotate_left
          · intro w'
            go_simp
            try (with_reducible rfl)
          rotate_left
          · simp only [Act.put,List.setIfInBounds_toArray,List.set_cons_zero,List.set_cons_succ]
            rfl
          refine one_ (i:=19) (N:=some 52) #[true,true,true,true,true,true,true,true,true,true,true,true,true,true,true,true,true,true,true,true,true,true,true,true,false,false,false] rfl rfl (by kernel_rfl) (by decide) (fun K hK => ?_)
          refine goes_ Try.func51 (by kernel_rfl) rfl #[.slice d1 R.length (c - (at_ + 13)),.int .i64 (kk:Int)] (by rfl) rfl rfl (by (try simp only [List.map_toArray,List.map_cons,List.map_nil]);first|done|rfl) ?_
          refine (journal_encode.calls ke d1 (c - (at_ + 13)) R (kk:Int) (encL R (kk:Int)) _ (Kd.C_below HCa.out (below_drew (below_drew (Below.refl _ _)))) hle1 hke).mono ?_
          rintro e w50 ⟨v50,rfl,hr50,hb50⟩
          obtain ⟨A50,c50,rfl⟩:=Kd.R_slice hr50
          have D50:=Lib.hid (show Below wr.heap.size wr w50 from below_then (below_drew (below_drew (Below.refl _ _))) (Nat.le_refl _) hb50)
          have C50:=Lib.hid (Kd.R_reads' hr50).2.2
          clear hr50 hb50
          refine ⟨_,rfl,?_⟩
          refine hK.out _ _ (by exact (blk_cell (blk_below HBx.out D50.out) 0).trans rfl) (fun hHeld => ?_)
          clear hK K
          refine norm_ (a':=?_) ?_ ?_
          rotate_left
          · show Act.put _ (some 52) _=_
            simp only [Act.put,List.setIfInBounds_toArray,List.set_cons_zero,List.set_cons_succ]
            rfl
          refine one_ (i:=24) (N:=some 57) #[true,true,true,true,true,true,true,true,true,true,true,true,true,true,true,true,true,true,true,true,true,true,true,true,true,false,false] rfl rfl (by kernel_rfl) (by decide) (fun K hK => ?_)
          refine goes_ Try.func63 (by kernel_rfl) rfl #[.slice A50 (encL R (kk:Int)).length c50,.slice d2 G.length (c - at_)] (by rfl) rfl rfl (by (try simp only [List.map_toArray,List.map_cons,List.map_nil]);first|done|rfl) ?_
          refine (equal_calls A50 c50 (encL R (kk:Int)) d2 (c - at_) G _ C50.out (Kd.C_below HCb.out D50.out)).mono ?_
          rintro e w51 ⟨rfl,hb51⟩
          have D51:=Lib.hid (below_then D50.out D50.out.size hb51)
          clear hb51
          refine ⟨_,rfl,?_⟩
          refine hK.out _ _ (by exact (blk_cell (blk_below HBx.out D51.out) 0).trans rfl) (fun hHeld => ?_)
          clear hK K
          refine norm_ (a':=?_) ?_ ?_
          rotate_left
          · show Act.put _ (some 57) _=_
            simp only [Act.put,List.setIfInBounds_toArray,List.set_cons_zero,List.set_cons_succ]
            rfl
          refine pure_ (i:=25) (N:=some 58) (v:=?_) (a':=?_) #[true,true,true,true,true,true,true,true,true,true,true,true,true,true,true,true,true,true,true,true,true,true,true,true,true,true,false] rfl rfl (by kernel_rfl) (fun _ _ _ h=>h) (Or.inl ⟨by rfl,?_⟩) ?_ ?_
          rotate_left
          · intro w'
            go_simp
            try (with_reducible rfl)
          rotate_left
          · simp only [Act.put,List.setIfInBounds_toArray,List.set_cons_zero,List.set_cons_succ]
            rfl
          refine pure_ (i:=26) (N:=some 59) (v:=?_) (a':=?_) #[true,true,true,true,true,true,true,true,true,true,true,true,true,true,true,true,true,true,true,true,true,true,true,true,true,true,true] rfl rfl (by kernel_rfl) (fun _ _ _ h=>h) (Or.inl ⟨by rfl,?_⟩) ?_ ?_
          rotate_left
          · intro w'
            go_simp
            try (with_reducible rfl)
          rotate_left
          · simp only [Act.put,List.setIfInBounds_toArray,List.set_cons_zero,List.set_cons_succ]
            rfl
          refine done_ (by kernel_rfl) ?_
          have heq0:recEq b kk at_ n=((strOfNums (encL R (kk:Int))).toList == (strOfNums G).toList):=by rw [HR.out,HG.out];rfl
          rw [← heq0]
          cases heq:recEq b kk at_ n
          · have Heq:=Lib.hid heq
            clear heq0 heq
            go_wp2
            (refine bodyPost_ret (v:=.tuple #[]) (by simp [results,Try.results62,go_sem]) rfl ⟨⟨_,rfl⟩,xs,m,isRecs_uniq _ _ _ _ _ (by have hE:=HE.out [] (recAt_none_of Hn.out (.inr (.inr (.inr Heq.out))));rw [List.append_nil] at hE;exact hE) (isRecs_recs b),hJ _ _ _ _ HJ.out (grown_of_below D51.out)⟩)
          · have Heq:=Lib.hid heq
            have Hsome:=Lib.hid (recAt_some_of Hn.out hlt (by omega) (by omega) (by omega) heq)
            clear heq0 heq
            have q1:wrap64 ((at_:Int) + 13)=(at_:Int) + 13:=m1
            obtain ⟨i5',hi5',hz5',hs5',hy5'⟩:=info_parts info5
            go_upto_region 10 with (first|((with_reducible refine gate_dst (N:=61) rfl ?_);refine Kd.R_make (Kd.int .u8) (w0:=w51) w51.heap.size 5 rfl (N:=61) rfl 22 (.tmp 60) (.tmp 60) rfl (n:Int) rfl rfl hu22 (.int .u8 0) 1 info5 rfl (by decide) (by decide) (0:Int) (ok:=fun _=>True) (okp:=fun _=>False) rfl (fun _ h=>h.elim) trivial (by omega) (by simp;omega) (Below.refl _ _) (Nat.le_refl _) ?_;intro v61 w61 hr61 hb61 _ _;obtain ⟨g61,c61,cur61,rfl,hg61,hcur61,hcap61,hmx61,hsz61⟩:=own_all (Kd.own_of_R hr61) (by simp;omega);have Hg61:=Lib.hid hg61;have Hcur61:=Lib.hid hcur61;have Hsz61:=Lib.hid hsz61;have Hmx61:=Lib.hid hmx61;have Hcap61:=Lib.hid hcap61;clear hg61 hcur61 hcap61 hmx61 hsz61;have HB61:=Lib.hid hb61;have kbx:=(blk_cell (blk_below HBx.out (below_then D51.out D51.out.size hb61)) 0).trans rfl;clear hr61 hb61)|((with_reducible refine gate_dst (N:=67) rfl ?_);refine wpList_copy_splice rfl (.tmp 62) (.tmp 66) 22 22 rfl 5 hu22 (by rw [hi5'];simp [hs5']) (some ⟨g61,0,none⟩) (some (ad.add (at_ + 13))) _ c61 (b.length - (at_ + 13)) (c - (at_ + 13)) rfl rfl g61 0 cur61 5 Hcur61.out (R.map (Value.int .u8)) ?hn ?hp ?hfit ?h1 w51.heap.size w51 HB61.out Hg61.out ?rest;(case hn=>(simp only [List.length_map];rw [HRl.out];simp only [Nat.min_def];split <;> omega));(case hp=>(intro _;refine ⟨rfl,_,rfl,?_⟩;intro j v hj;rw [List.getElem?_map] at hj;obtain ⟨z,hz,rfl⟩:=Option.map_eq_some_iff.1 hj;have hjl:=(List.getElem?_eq_some_iff.1 hz).1;have hRl2:=HRl.out;obtain ⟨ad',ea,hcl⟩:=kept_at HC.out (by omega);injection ea with ea;subst ea;have hc2:=hcl (at_ + 13 + j) (by omega);have hbz:b.getD (at_ + 13 + j) 0=z:=(by rw [HR.out] at hz;rw [List.getElem?_drop,List.getElem?_take_of_lt (by omega)] at hz;rw [List.getD_eq_getElem?_getD,hz];rfl);rw [hbz] at hc2;rw [show (ad.add (at_ + 13)).add j=ad.add (at_ + 13 + j) from add_add2 _ _ _];exact (cell_below (below_then D51.out D51.out.size HB61.out) hc2)));(case hfit=>(have h1:=Hsz61.out;have h2:=Hcap61.out;simp at h1 h2 ⊢;have:=HRl.out;omega));(case h1=>(intro v hv;simp at hv;obtain ⟨_,_,rfl⟩:=hv;rfl));intro w67 H67 hb67;have HB67:=Lib.hid hb67;clear hb67) )
            have hn0:0 < n:=by omega
            have hE67:Below wr.heap.size wr w67:=below_then D51.out D51.out.size HB67.out
            have hR67:Kd.R (Kd.int .u8) 5 w67 base (fun _=>True) (.slice (some ⟨g61,0,none⟩) R.length c61) R:=R_filled H67.out (Nat.le_trans Hbs.out (Nat.le_trans D51.out.size Hg61.out)) (by have h2:=Hcap61.out;simp at h2;have:=HRl.out;omega) Hmx61.out Hsz61.out
            rw [HRl.out] at hR67
            obtain ⟨fn,tmps,assign,body,hy,hRd⟩:=HY.out xs m (.slice (some ⟨g61,0,none⟩) n c61,R,at_ + 13 + n) w67 (hJ _ _ _ _ HJ.out (grown_of_below hE67)) ⟨hR67,fun k hk=>(by simp [Value.ownBlock] at hk;subst hk;exact Nat.le_trans Hm.out (Nat.le_trans D51.out.size Hg61.out)),(by show R.length ≤ 4096;rw [HRl.out];omega)⟩ (by rw [Hxs.out];omega)
            have HE67:=Lib.hid hE67
            have HRd:=Lib.hid hRd
            dsimp only [recEncs] at hy
            rw [show ((at_ + 13 + n:Nat):Int)=(at_:Int) + 13 + (n:Int) by omega] at hy
            clear hE67 hRd hR67 kbx
            refine (wpIn_wide (n:=1)).1 ?_
            gi_wp2
            refine (roundIn_any HRd.out).mono ?_
            rintro e W2 ⟨rfl,hJ2,hK2⟩
            have HJ2:=Lib.hid hJ2
            have HK2:=Lib.hid hK2
            have HBx2:Hid (W2.heap[Bx]? = some (.cells #[.slice (some ad) b.length c] 22 (0,0))):=Lib.hid (hK2.2.trans (blk_below HBx.out HE67.out))
            have HC2:Hid (Kd.C (Kd.int .u8) W2 (some ad) b.length b):=Lib.hid (C_under (Kd.C_below HC.out HE67.out) hK2.1 HA.out)
            have Hbs2:Hid (base ≤ W2.heap.size):=Lib.hid (Nat.le_trans Hbs.out (Nat.le_trans HE67.out.size hK2.1.size))
            have Hxs2:Hid ((xs ++ [((.slice (some ⟨g61,0,none⟩) n c61,R,at_ + 13 + n):RecV)]).length=kk + 1):=Lib.hid (by rw [List.length_append,Hxs.out];rfl)
            have HE2:Hid (∀ L,IsRecs b (kk + 1) (at_ + 13 + n) L→IsRecs b 0 0 ((xs ++ [((.slice (some ⟨g61,0,none⟩) n c61,R,at_ + 13 + n):RecV)]).map (·.2) ++ L)):=Lib.hid (by
             intro L hL
             rw [List.map_append,List.append_assoc]
             refine HE.out _ ⟨?_,hL⟩
             rw [HR.out]
             exact Hsome.out)
            clear hJ2 hK2
            gi_wp2
            go_wp2
            go_roundg (b.length - (at_ + 13 + n))
            case measure=>omega
            case rel=>exact ⟨at_ + 13 + n,kk + 1,_,W2.heap.size,by omega,rfl,by go_num,by go_num,HBx2,HC2,HE2,HJ2,Lib.hid (Nat.le_refl _),Hbs2,Hxs2,by omega⟩
  · have e1:wrap64 ((b.length:Int) - (at_:Int))=(b.length:Int) - (at_:Int):=by unfold wrap64;omega
    have e2:decide ((b.length:Int) - (at_:Int) > 13)=false:=decide_eq_false (by omega)
    go_wp2
    (refine bodyPost_end (v:=.tuple #[]) (by simp [results,Try.results62,go_sem]) rfl ⟨⟨_,rfl⟩,xs,m,isRecs_uniq _ _ _ _ _ (by have hE:=HE.out [] (by unfold IsRecs recAt;rw [if_neg (by omega)]);rw [List.append_nil] at hE;exact hE) (isRecs_recs b),hJ _ _ _ _ HJ.out (grown_of_below (by repeat (first|exact Below.refl _ _|apply below_drew)))⟩)
end Go.Proofs.Ytfpdmlhknddffaa.Dk
end
section
namespace Go.Proofs.Ytfpdmlhknddffaa.Dk
open Go.RowKit Go.Proofs.YtfpdmlhknddffaaW.PrintWords Go.Proofs.YtfpdmlhknddffaaW.PrintLast Go.Proofs.YtfpdmlhknddffaaW.PrintMore
set_option linter.unusedVariables false
set_option linter.unusedSimpArgs false
theorem find_calls (A:Option Addr) (n c:Nat) (w:World):Calls Try.prog 53 #[.slice A n c] w fun e w'=>∃ g,e=.returned (.func (.func 62) #[] #[.pointer (some ⟨g,0,none⟩)])∧w'.heap[g]? = some (.cells #[.slice A n c] 22 (0,0))∧w.heap.size ≤ g∧Below w.heap.size w w':=by
 have hu22:=Try.underlying22
 go_enter Try.func53,Try.ntmps53
 go_wp2_with (first|((with_reducible refine gate_dst (N:=1) rfl ?_);(refine box_event ?hg (N:=1) ?hd (cs:=#[.slice A n c]) (t:=22) ?hr ?_);(case hd=>rfl);(case hg=>rfl);(case hr=>first|(go_simp;done)|(go_simp;rfl));intro g hg w1 hb1 hB1;have Hg:=Lib.hid hg;have HB1:=Lib.hid hB1;have Hb1:=Lib.hid hb1;clear hb1 hB1 hg) )
 go_ret
 exact ⟨g,rfl,Hb1.out,by rw [Hg.out];exact Nat.le_refl _,HB1.out⟩
theorem S_append_in {F:Fence} {nF:Nat} {P:Program} {ops:Array Oper} {rest:List Oper} {o:Oper} {a:Act} {Q:Exit→Act→World→Prop} {α:Type} (d:Kd α) {w0 W:World} (base:Nat) (hgd:o.guard=none) (s x:Operand) (t e:TypeId) (z:Value) (bytes:Nat)
 (ho:o.op=.call { callee:=.builtin .append,args:=#[s,x],argTypes:=#[t,t] })
 (ht:P.underlying t=some (.slice e)) (hinfo:(P.info? e).map (fun i=>(i.zero,i.size,i.bytes))=some (some z,d.sz,bytes)) (hz:z.cells.size=d.sz) (hs0:0 < d.sz) (hb0:0 < bytes)
 (v:Value) (xs:List α) (p:α) (cs:List Value) (ok okp:Nat→Prop) (hs:a.eval s=v) (hx:a.eval x=.slice (some ⟨W.heap.size,0,none⟩) 1 1) (hp:d.M W base okp p cs) (hokp:∀ k,okp k→ok k∧some k ≠ v.ownBlock) (hfresh:∀ k,W.heap.size ≤ k→ok k)
 (HO:Kd.S d e W base (fun k=>ok k∧¬ okp k) v xs) (HB:Below base w0 W) (hbase:base ≤ W.heap.size) (hl:(xs.length + 1) * bytes ≤ 140737488355328)
 (h:∀ v1 w1,Kd.S d e w1 base ok v1 (xs ++ [p])→Below base w0 w1→W.grownBy w1 v.ownBlock→(v1.ownBlock=v.ownBlock∨∃ b,v1.ownBlock=some b∧W.heap.size ≤ b)→wpListIn F nF P ops Q rest (a.put o.dst v1) w1) :
 wpListIn F nF P ops Q (o :: rest) a (W.alloc (.cells cs.toArray e)):=by
 obtain ⟨f,hf,hR⟩:=Kd.S_tag HO xs.length okp (fun _ hk h2=>h2.2 hk)
 obtain ⟨h0,inner,hown,hr⟩:=Kd.R_mono hR (ok':=ok) (fun _ hk=>hk.1)
 obtain ⟨i0,hi,hzz⟩:=Option.map_eq_some_iff.1 hinfo
 simp only [Prod.mk.injEq] at hzz
 obtain ⟨hz0,hz1,hz2⟩:=hzz
 have hcs:=d.K_len (d.K_of_M hp)
 have hlen:xs.zipIdx.length + 1 ≤ 140737488355328:=by rw [List.length_zipIdx];exact Nat.le_trans (Nat.le_mul_of_pos_right _ hb0) hl
 have hp':(Kd.tag f d).M W base okp (p,xs.length) cs:=d.M_mono (fun k hk=>⟨hk,hf k hk⟩) hp
 refine wpListIn_append_own_at (w:=W.alloc (.cells cs.toArray e)) hgd s x t ho base e i0 z d.sz bytes ht hi hz0 hz1 hz2 hz hs0 v xs.zipIdx.length inner hs (hown.alloc _) ⟨W.heap.size,0,none⟩ 1 1 cs hx (by rw [hcs];simp)
  (by simpa using World.news_of_block (cs:=cs.toArray) (t:=e) (fr:=(0,0)) (heap_alloc_new W (.cells cs.toArray e))) (d.K_one (d.K_of_M hp)) (by simp only [maxLen];omega) (by rw [List.length_zipIdx];exact hl) (by simp;omega) ?_
 intro v1 w1 hown1 hg1 _ hat1
 have hg2:W.grownBy w1 v.ownBlock:=⟨hg1.os,hg1.tape,hg1.output,by have:=hg1.size;simp at this;omega,fun k hk hne=>(hg1.block k (by simp;omega) hne).trans (Below.heap_alloc W _ k hk)⟩
 have hat2:v1.ownBlock=v.ownBlock∨∃ b,v1.ownBlock=some b∧W.heap.size ≤ b:=by
  rcases hat1 with h1|h1
  · exact .inl h1
  · exact .inr ⟨_,h1,by simp⟩
 have hr1:=Kd.R_appended (d:=Kd.tag f d) h0 hr hp' hokp hfresh hown1 hg2 hat2
 rw [← Kd.zip_snoc] at hr1
 exact h v1 w1 ⟨f,hr1⟩ (HB.grown hg2 hbase (own_base hown)) hg2 hat2
def retOnly (Q:Exit→Act→World→Prop):Exit→Act→World→Prop
 | .ret,a,w=>Q .ret a w
 | _,_,_=>False
theorem wp_retOnly {P:Program} {c:Code} {Q:Exit→Act→World→Prop} {a:Act} {w:World} (h:c.wp P (retOnly Q) a w):c.wp P Q a w:=Code.wp_mono (fun e a w q=>by cases e <;> first|exact q|exact q.elim) h
def endOf (L:List (List Int × Nat)):Int:=((L.getLast?.map (·.2)).getD 0:Nat)
def okBytes (b:List Int):Bool:=decide (b.length ≤ 65536) && b.all fun x=>decide (0 ≤ x) && decide (x ≤ 255)
def journal_Records.f (l0_0:List Int) (l0_1:List S45):Option (List (List Int) × Int) :=
 if readOk l0_0 l0_1 0 (l0_0.length:Int)=true then (if okBytes (readL l0_0 l0_1 0 (l0_0.length:Int))=true then some ((recs (readL l0_0 l0_1 0 (l0_0.length:Int))).map (·.1),endOf (recs (readL l0_0 l0_1 0 (l0_0.length:Int)))) else none) else some ([],0)
theorem Records_err (A0_0:Option Addr) (c0_0:Nat) (l0_0:List Int) (A0_1:Option Addr) (c0_1:Nat) (l0_1:List (S45)) (w:World) (hr0_0:Kd.C (Kd.int .u8) w A0_0 l0_0.length l0_0) (hc0_0:l0_0.length ≤ c0_0) (hr0_1:Kd.C k45 w A0_1 l0_1.length l0_1) (hc0_1:l0_1.length ≤ c0_1) (h:readOk l0_0 l0_1 0 (l0_0.length:Int)=false) :
 Calls Try.prog 36 #[.agg #[.slice A0_0 l0_0.length c0_0,.slice A0_1 l0_1.length c0_1]] w fun e w'=>e=.returned (.tuple #[.slice none 0 0,.int .i64 0])∧Below w.heap.size w w':=by
 have hu25:=Try.underlying25
 have hread:∀ W,Below w.heap.size w W→Calls Try.prog 23 #[.agg #[.slice A0_0 l0_0.length c0_0,.slice A0_1 l0_1.length c0_1],.int .i64 0,.int .i64 (l0_0.length:Int)] W fun e w'=>∃ v0_:Value,e=.returned (.tuple #[v0_,.int .i64 1])∧Below W.heap.size W w':=by
  intro W hW
  refine (disk_Read.calls A0_0 c0_0 l0_0 A0_1 c0_1 l0_1 0 (l0_0.length:Int) _ _ W (Kd.C_below hr0_0 hW) hc0_0 (Kd.C_below hr0_1 hW) hc0_1 rfl).mono ?_
  rintro e w' ⟨v,rfl,_,hb⟩
  exact ⟨v,by rw [h];rfl,hb⟩
 have Hread:=Lib.hid hread
 clear hread hr0_0 hr0_1 h
 go_enter Try.func36,Try.ntmps36
 go_wp2_with (first|((with_reducible refine gate_dst (N:=1) rfl ?_);(refine box_event ?hg (N:=1) ?hd (cs:=#[.slice A0_0 l0_0.length c0_0,.slice A0_1 l0_1.length c0_1]) (t:=25) ?hr ?_);(case hd=>rfl);(case hg=>rfl);(case hr=>first|(go_simp;done)|(go_simp;rfl));intro g hg w1 hb1 hB1;have HB1:=Lib.hid hB1;have Hb1:=Lib.hid hb1;have k0:=(blk_cell hb1 0).trans rfl;have k1:=(blk_cell hb1 1).trans rfl;clear hb1 hB1 hg)|(go_at_call 23;refine (Hread.out w1 HB1.out).mono ?_;rintro e w2 ⟨v2,rfl,hB2⟩;have HB2:=Lib.hid (below_then HB1.out HB1.out.size hB2);clear hB2) )
 go_ret2
 exact ⟨rfl,HB2.out⟩
end Go.Proofs.Ytfpdmlhknddffaa.Dk
end
section
namespace Go.Proofs.Ytfpdmlhknddffaa.Dk
open Go.RowKit Go.Proofs.YtfpdmlhknddffaaW.PrintWords Go.Proofs.YtfpdmlhknddffaaW.PrintLast Go.Proofs.YtfpdmlhknddffaaW.PrintMore
set_option linter.unusedVariables false
set_option linter.unusedSimpArgs false
attribute [local go_sem] Oper.semAt_some
set_option maxHeartbeats 4000000 in
theorem Records_ok (A0_0:Option Addr) (c0_0:Nat) (l0_0:List Int) (A0_1:Option Addr) (c0_1:Nat) (l0_1:List (S45)) (w:World) (hr0_0:Kd.C (Kd.int .u8) w A0_0 l0_0.length l0_0) (hc0_0:l0_0.length ≤ c0_0) (hr0_1:Kd.C k45 w A0_1 l0_1.length l0_1) (hc0_1:l0_1.length ≤ c0_1) (h:readOk l0_0 l0_1 0 (l0_0.length:Int)=true)
 (b:List Int) (hbe:b=readL l0_0 l0_1 0 (l0_0.length:Int)) (hbl:b.length ≤ 65536) (hrg:∀ x ∈ b,0 ≤ x∧x ≤ 255) :
 Calls Try.prog 36 #[.agg #[.slice A0_0 l0_0.length c0_0,.slice A0_1 l0_1.length c0_1]] w fun e w'=>∃ v0_:Value,e=.returned (.tuple #[v0_,.int .i64 (endOf (recs b))])∧Kd.S (Kd.slice 5 (Kd.int .u8)) 22 w' w.heap.size (fun _=>True) v0_ ((recs b).map (·.1))∧Below w.heap.size w w':=by
 have hu25:=Try.underlying25
 have hu49:=Try.underlying49
 have hread:∀ W,Below w.heap.size w W→Calls Try.prog 23 #[.agg #[.slice A0_0 l0_0.length c0_0,.slice A0_1 l0_1.length c0_1],.int .i64 0,.int .i64 (l0_0.length:Int)] W fun e w'=>∃ v0_:Value,e=.returned (.tuple #[v0_,.int .i64 0])∧Kd.R (Kd.int .u8) 5 w' W.heap.size (fun _=>True) v0_ b∧Below W.heap.size W w':=by
  intro W hW
  refine (disk_Read.calls A0_0 c0_0 l0_0 A0_1 c0_1 l0_1 0 (l0_0.length:Int) _ _ W (Kd.C_below hr0_0 hW) hc0_0 (Kd.C_below hr0_1 hW) hc0_1 rfl).mono ?_
  rintro e w' ⟨v,rfl,hr,hb⟩
  exact ⟨v,by rw [h];rfl,by rw [hbe];exact hr,hb⟩
 have Hread:=Lib.hid hread
 have Hrg:=Lib.hid hrg
 clear hread hr0_0 hr0_1 h hbe hrg
 refine (callsIn_wide (n:=5)).1 (callsIn_of_wp_marks Try.func36 rfl trivial ?_)
 refine wpIn_wide.2 ?_
 simp only [Try.ntmps36,List.size_toArray,List.length_cons,List.length_nil,Nat.reduceAdd,Nat.reduceSub,Array.replicate_succ,Array.replicate_zero,List.push_toArray,List.append_toArray,List.nil_append,List.cons_append]
 go_wp2_with (first|((with_reducible refine gate_dst (N:=1) rfl ?_);(refine box_event ?hg (N:=1) ?hd (cs:=#[.slice A0_0 l0_0.length c0_0,.slice A0_1 l0_1.length c0_1]) (t:=25) ?hr ?_);(case hd=>rfl);(case hg=>rfl);(case hr=>first|(go_simp;done)|(go_simp;rfl));intro g hg w1 hb1 hB1;have HB1:=Lib.hid hB1;have Hb1:=Lib.hid hb1;have k0:=(blk_cell hb1 0).trans rfl;have k1:=(blk_cell hb1 1).trans rfl;clear hb1 hB1 hg)|(go_at_call 23;refine (Hread.out w1 HB1.out).mono ?_;rintro e w2 ⟨v2,rfl,hr2,hB2⟩;obtain ⟨A,c,rfl⟩:=Kd.R_slice hr2;have HR2:=Lib.hid hr2;have HB2:=Lib.hid (below_then HB1.out HB1.out.size hB2);have HW2:=Lib.hid (Nat.le_trans HB1.out.size hB2.size);clear hr2 hB2)|((with_reducible refine gate_dst (N:=6) rfl ?_);(refine box_event ?hg (N:=6) ?hd (cs:=#[.slice none 0 0]) (t:=49) ?hr ?_);(case hd=>rfl);(case hg=>rfl);(case hr=>first|(go_simp;done)|(go_simp;rfl));intro g6 hg6 w3 hb3 hB3;have Hg6:=Lib.hid hg6;have HB3:=Lib.hid hB3;have Hb3:=Lib.hid hb3;have k6:=(blk_cell hb3 0).trans rfl;clear hb3 hB3 hg6)|((with_reducible refine gate_dst (N:=7) rfl ?_);(refine box_event ?hg (N:=7) ?hd (cs:=#[.int .i64 0]) (t:=3) ?hr ?_);(case hd=>rfl);(case hg=>rfl);(case hr=>first|(go_simp;done)|(go_simp;rfl));intro g7 hg7 w4 hb4 hB4;have Hg7:=Lib.hid hg7;have HB4:=Lib.hid hB4;have Hb4:=Lib.hid hb4;have k7:=(blk_cell hb4 0).trans rfl;have kf7:=blk_frozen hb4 0;clear hb4 hB4 hg7)|(go_at_call 53;refine (find_calls _ _ _ _).mono ?_;rintro e w6 ⟨g8,rfl,hb6,hg8,hB6⟩;have Hg8:=Lib.hid hg8;have HB6:=Lib.hid hB6;have Hb6:=Lib.hid hb6;clear hb6 hB6 hg8) )
 obtain ⟨w5,hw5⟩:∃ w5,w5=w4.setCell ⟨g7,0,none⟩ (.int .i64 0):=⟨_,rfl⟩
 rw [← hw5] at Hg8 HB6
 have hA:∀ ad,A=some ad→ad.block < w2.heap.size:=by
  rintro ad rfl
  obtain ⟨inner,ho⟩:=Kd.R_own HR2.out
  exact own_lt ho ad.block rfl
 have hC2:Kd.C (Kd.int .u8) w2 A b.length b:=(Kd.R_reads' HR2.out).2.2
 have hbc:b.length ≤ c:=(Kd.R_reads' HR2.out).2.1
 have h36:Below w2.heap.size w2 w5:=by
  rw [hw5]
  exact (below_then HB3.out HB3.out.size HB4.out).setCell (by rw [Hg7.out];exact HB3.out.size) _
 have h26:Below w2.heap.size w2 w6:=below_then h36 h36.size HB6.out
 have h06:Below w.heap.size w w6:=below_then HB2.out HW2.out h26
 have hg6:g6 < w5.heap.size:=by have:=blk_lt Hb3.out;have h1:=HB4.out.size;rw [hw5];simp;omega
 have hg7:g7 < w5.heap.size:=by have:=blk_lt Hb4.out;rw [hw5];simp;omega
 have hg67:g6 ≠ g7:=by have:=blk_lt Hb3.out;have:=Hg7.out;omega
 have hb6:w6.heap[g6]? = some (.cells #[.slice none 0 0] 49 (0,0)):=by
  refine (HB6.out.block g6 hg6).trans ?_
  rw [hw5]
  exact (Below.heap_setCell _ _ _ _ hg67).trans (blk_below Hb3.out HB4.out)
 have hb7:w6.heap[g7]? = some (.cells #[.int .i64 0] 3 (0,0)):=by
  refine (HB6.out.block g7 hg7).trans ?_
  rw [hw5]
  exact blk_put Hb4.out 0 _ rfl
 have hg8:g8 < w6.heap.size:=blk_lt Hb6.out
 have hg86:g6 ≠ g8∧g7 ≠ g8:=by have:=Hg8.out;omega
 have hs56:=HB6.out.size
 have hs26:=h26.size
 have hge6:w2.heap.size ≤ g6:=by rw [Hg6.out];exact Nat.le_refl _
 have hge7:w2.heap.size ≤ g7:=by rw [Hg7.out];exact HB3.out.size
 clear k0 k1 k6 k7 kf7
 refine (wpIn_wide (n:=5)).1 ?_
 refine range_told (F:=Fence.wide) (n:=5) (gf:=62) (lb:=#[.pointer (some ⟨g8,0,none⟩)]) rfl (by decide) rfl trivial (enters_of Try.func62 (by kernel_rfl) rfl) (encs:=recEncs) (N:=b.length) (C:=RecC w6.heap.size) (Kp:=RecKp w2.heap.size g8) (S:=RecS b)
  ?seq ?kt ?kb ?ps ?hC (fun pre m W=>∃ v,W.heap[g6]? = some (.cells #[v] 49 (0,0))∧W.heap[g7]? = some (.cells #[.int .i64 (endOf (pre.map (·.2)))] 3 (0,0))∧Kd.S (Kd.slice 5 (Kd.int .u8)) 22 W w6.heap.size (fun k=>k < m) v (pre.map (·.2.1))∧Below w.heap.size w W∧w6.heap.size ≤ W.heap.size)
  ?hI ?h0 (fun x=>{ tmps:=#[.agg #[.slice A0_0 l0_0.length c0_0,.slice A0_1 l0_1.length c0_1],.pointer (some ⟨g,0,none⟩),.slice none 0 0,.int .i64 0,.slice A b.length c,.int .i64 0,.pointer (some ⟨g6,0,none⟩),.pointer (some ⟨g7,0,none⟩),x.1,.int .i64 (x.2.2:Int),.tuple #[.slice A b.length c,.int .i64 0],.agg #[.slice A0_0 l0_0.length c0_0,.slice A0_1 l0_1.length c0_1],.pointer (some ⟨g,0,none⟩),.slice A0_0 l0_0.length c0_0,.int .i64 l0_0.length,.tuple #[.slice A b.length c,.int .i64 0],.slice A b.length c,.int .i64 0,.int .i64 0,.bool false,.slice A b.length c,.func (.func 62) #[] #[.pointer (some ⟨g8,0,none⟩)],x.1,.int .i64 (x.2.2:Int),undef,undef,undef,undef,undef,undef,undef],defers:=[] }) ?assign ?body ?done
 case seq =>
  intro l J W hW hl hJ hY h0
  refine callsIn_wide.2 (find_walk l g8 w2.heap.size w6.heap.size 3 A c b J W ?_ ?_ hbc hbl Hrg.out hA hW.size hJ hY h0)
  · exact blk_below Hb6.out hW
  · exact Kd.C_below hC2 (below_then h26 hs26 hW)
 case kt=>rintro X Y Z ⟨h1,h2⟩ ⟨h3,h4⟩;exact ⟨h1.trans h3,h4.trans h2⟩
 case kb =>
  intro W l o o' hl ho h1 h2
  exact ⟨belowK_b (w:=w6) hs26 W l o o' hl ho h1 h2,World.putObj_heap_other (by omega)⟩
 case ps=>intro x;rfl
 case hC =>
  rintro ⟨m,x⟩ W W' row ⟨h1,h2,h3⟩ hg hr
  refine ⟨Kd.R_mono (Kd.R_grown (Kd.R_bound h1) hg ?_) (fun _ hk=>hk.1),h2,h3⟩
  rintro k ⟨_,_,_,q,_,cells,hc⟩ e
  obtain ⟨_,o,ho,hn⟩:=hr k e.symm
  rw [hc] at ho
  injection ho with ho
  subst ho
  cases hn
 case hI =>
  rintro ⟨pre,m⟩ W W' row ⟨v,h6,h7,hS,hB,hz⟩ hg hr
  have hne:∀ k,k < w6.heap.size→some k ≠ row:=fun k hk e=>by have:=(hr k e.symm).1;omega
  refine ⟨v,blk_grown h6 hg (hne _ (by omega)),blk_grown h7 hg (hne _ (by omega)),Kd.S_mono (Kd.S_grown (Kd.S_bound hS) hg ?_) (fun _ hk=>hk.1),hB.grown hg hB.size (fun k e=>by have:=(hr k e).1;have:=h06.size;omega),Nat.le_trans hz hg.size⟩
  rintro k ⟨_,_,_,q,_,cells,hc⟩ e
  obtain ⟨_,o,ho,hn⟩:=hr k e.symm
  rw [hc] at ho
  injection ho with ho
  subst ho
  cases hn
 case h0=>exact ⟨_,hb6,hb7,Kd.S_nil _ _ _ _ _,h06,Nat.le_refl _⟩
 case assign =>
  rintro l ⟨x1,x2,x3⟩ W K hK
  dsimp only [recEncs]
  gi_wp2
  exact hK
 case body =>
  rintro l pre m ⟨x1,x2,x3⟩ W ⟨v,h6,h7,hS,hB,hz⟩ ⟨hR,hm,hl⟩ hN
  have hR:Kd.R (Kd.int .u8) 5 W w6.heap.size (fun _=>True) x1 x2:=hR
  obtain ⟨Ax,cx,rfl⟩:=Kd.R_slice hR
  obtain ⟨Av,cv,rfl⟩:=Kd.S_slice hS
  rw [List.length_map] at h6 hS
  have hk6:=(blk_cell h6 0).trans rfl
  have hf6:=blk_frozen h6 0
  have H6:=Lib.hid h6
  have H7:=Lib.hid h7
  have HS:=Lib.hid hS
  have HB':=Lib.hid hB
  have HR:=Lib.hid hR
  have Hm:=Lib.hid hm
  have Hz:=Lib.hid hz
  clear h6 h7 hS hB hR hm hz hb6 hb7
  gi_wp2_with (first|(gi_at_builtin;refine S_append_in (Kd.slice 5 (Kd.int .u8)) (w0:=W) (W:=W) w6.heap.size rfl (.tmp 24) (.tmp 26) 49 22 (.slice none 0 0) 24 rfl hu49 info22 rfl (by decide) (by decide) (.slice Av pre.length cv) (pre.map (·.2.1)) x2 [.slice Ax x2.length cx] (fun _=>True) (fun k=>some k=(Value.slice Ax x2.length cx).ownBlock) rfl rfl ⟨.slice Ax x2.length cx,rfl,Kd.R_tight rfl HR.out⟩ ?hokp (fun _ _=>trivial) ?HO (Below.refl _ _) Hz.out (by rw [List.length_map];omega) ?_;(case hokp=>(intro k hk;refine ⟨trivial,fun e => ?_⟩;have h1:=(Kd.S_R HS.out).1 k e.symm;have h2:=Hm.out k hk.symm;omega));(case HO=>(refine Kd.S_mono HS.out ?_;intro k hk;refine ⟨trivial,fun e => ?_⟩;have h2:=Hm.out k e.symm;omega));intro v1 w1 hS1 hb1 hg1 hat1;obtain ⟨Av1,cv1,rfl⟩:=Kd.S_slice hS1;have hvo:∀ k,(Value.slice Av pre.length cv).ownBlock=some k→w6.heap.size ≤ k:=(Kd.S_base HS.out);have hne:∀ k,k < w6.heap.size→some k ≠ (Value.slice Av pre.length cv).ownBlock:=(fun k hk e=>(by have:=hvo k e.symm;omega));have h6b:=blk_grown H6.out hg1 (hne g6 (by omega));have h7b:=blk_grown H7.out hg1 (hne g7 (by omega));have ck6:=(blk_cell h6b 0).trans rfl;have cf6:=blk_frozen h6b 0;have ck7:∀ u,(w1.setCell ⟨g6,0,none⟩ u).cell? ⟨g7,0,none⟩=some (.int .i64 (endOf (pre.map (·.2)))):=(fun u=>(blk_cell (show (w1.setCell ⟨g6,0,none⟩ u).heap[g7]? = _ from (Below.heap_setCell _ _ _ _ hg67.symm).trans h7b) 0).trans rfl);have cf7:∀ u,(w1.setCell ⟨g6,0,none⟩ u).frozen? ⟨g7,0,none⟩=false:=(fun u=>blk_frozen (show (w1.setCell ⟨g6,0,none⟩ u).heap[g7]? = _ from (Below.heap_setCell _ _ _ _ hg67.symm).trans h7b) 0);have HS1:=Lib.hid hS1;have Hg1:=Lib.hid hg1;have H6b:=Lib.hid h6b;have H7b:=Lib.hid h7b;have Hvo:=Lib.hid hvo;clear hS1 hb1 hg1 hat1 h6b h7b hne hvo hk6 hf6) )
  obtain ⟨wa,hwa⟩:∃ wa,wa=w1.setCell ⟨g6,0,none⟩ (.slice Av1 (pre.length + 1) cv1):=⟨_,rfl⟩
  rw [← hwa]
  have hlen:(pre.map (·.2.1) ++ [x2]).length=pre.length + 1:=by simp
  have hsz1:W.heap.size ≤ w1.heap.size:=Hg1.out.size
  have hbW:Below w6.heap.size W w1:=(Below.refl _ _).grown Hg1.out Hz.out Hvo.out
  have hbF:Below w2.heap.size W (wa.setCell ⟨g7,0,none⟩ (.int .i64 (x3:Int))):=by
   rw [hwa]
   exact ((hbW.mono hs26).setCell hge6 _).setCell hge7 _
  have hS1:=HS1.out
  rw [hlen] at hS1
  have hne6:∀ k,w6.heap.size ≤ k→k ≠ g6∧k ≠ g7:=fun k hk=>⟨by omega,by omega⟩
  have hS2:=Kd.S_bound hS1
  have hSa:=Kd.S_far (p:=⟨g6,0,none⟩) hS2 (fun k hk=>(hne6 k hk.2.1).1) (.slice Av1 (pre.length + 1) cv1)
  rw [← hwa] at hSa
  have hSb:=Kd.S_far (p:=⟨g7,0,none⟩) hSa (fun k hk=>(hne6 k hk.2.1).2) (.int .i64 (x3:Int))
  have hszF:(wa.setCell ⟨g7,0,none⟩ (.int .i64 (x3:Int))).heap.size=w1.heap.size:=by rw [hwa];simp
  refine ⟨?_,⟨hbF,?_⟩,.slice Av1 (pre.length + 1) cv1,?_,?_,?_,HB'.out.trans (hbF.mono HW2.out),?_⟩
  · rw [hwa]
    refine ((KeepsOthers.of_grownBy Hg1.out ?_).trans (KeepsOthers.setCell _ _ _)).trans (KeepsOthers.setCell _ _ _)
    intro j o e ho
    obtain ⟨inner,hown⟩:=Kd.R_own (Kd.S_R HS.out)
    obtain ⟨cells,hc⟩:=own_typed hown j e
    rw [hc] at ho
    injection ho with ho
    subst ho
    rfl
  · refine (Below.heap_setCell _ _ _ _ (Ne.symm hg86.2)).trans ?_
    rw [hwa]
    exact (Below.heap_setCell _ _ _ _ (Ne.symm hg86.1)).trans (hbW.block g8 hg8)
  · exact (Below.heap_setCell _ _ _ _ hg67).trans (by rw [hwa];exact blk_put H6b.out 0 _ rfl)
  · have h7c:wa.heap[g7]? = some (.cells #[.int .i64 (endOf (pre.map (·.2)))] 3 (0,0)):=by rw [hwa];exact (Below.heap_setCell _ _ _ _ hg67.symm).trans H7b.out
    have:=blk_put h7c 0 (.int .i64 (x3:Int)) rfl
    rw [this,List.map_append]
    simp [endOf]
  · rw [List.map_append]
    exact Kd.S_mono hSb (fun k hk=>by rw [hszF];exact hk.2.2.1)
  · rw [hszF];have:=Hz.out;omega
 case done =>
  rintro D xs m W hD hS ⟨v,h6,h7,hS2,hB,hz⟩ hK
  obtain ⟨Av,cv,rfl⟩:=Kd.S_slice hS2
  rw [List.length_map] at h6 hS2
  have hk6:=(blk_cell h6 0).trans rfl
  have hk7:=(blk_cell h7 0).trans rfl
  have HS:=Lib.hid hS
  have H7:=Lib.hid h7
  have H6:=Lib.hid h6
  have HS2:=Lib.hid hS2
  have HBb:=Lib.hid hB
  have Hz:=Lib.hid hz
  have HK:=Lib.hid hK
  have HD:=Lib.hid hD
  clear hS h6 h7 hS2 hB hz hK hD
  gi_wp2
  refine wp_retOnly ?_
  go_wp2_with (fail)
  have H6d:=Lib.hid (blk_drew H6.out)
  have H7d:=Lib.hid (blk_drew H7.out)
  clear hk6 hk7
  refine start_ (n:=4) (S:=fun w'=>w'.cell? ⟨g6,0,none⟩=some (.slice Av xs.length cv)∧w'.cell? ⟨g7,0,none⟩=some (.int .i64 (endOf (xs.map (·.2))))) (ds:=[]) #[false,false,false,false] (by kernel_rfl) rfl rfl ⟨(blk_cell H6d.out 0).trans rfl,(blk_cell H7d.out 0).trans rfl⟩ ?_
  intro hHeld
  refine take_ (i:=0) (N:=some 29) (v:=?_) (a':=?_) #[true,false,false,false] rfl rfl (by kernel_rfl) (fun _ _ _ h=>h) (Or.inl ⟨by rfl,?_⟩) hHeld ?_ ?_
  rotate_left
  · rintro w' ⟨s0,s1⟩
    go_simp
    with_reducible rfl
  rotate_left
  · simp only [Act.put,List.setIfInBounds_toArray,List.set_cons_zero,List.set_cons_succ]
    rfl
  refine pure_ (i:=2) (N:=some 2) (v:=?_) (a':=?_) #[true,false,true,false] rfl rfl (by kernel_rfl) (fun _ _ _ h=>h) (Or.inl ⟨by rfl,?_⟩) ?_ ?_
  rotate_left
  · intro w'
    go_simp
    try (with_reducible rfl)
  rotate_left
  · simp only [Act.put,List.setIfInBounds_toArray,List.set_cons_zero,List.set_cons_succ]
    rfl
  refine take_ (i:=1) (N:=some 30) (v:=?_) (a':=?_) #[true,true,true,false] rfl rfl (by kernel_rfl) (fun _ _ _ h=>h) (Or.inl ⟨by rfl,?_⟩) hHeld ?_ ?_
  rotate_left
  · rintro w' ⟨s0,s1⟩
    go_simp
    with_reducible rfl
  rotate_left
  · simp only [Act.put,List.setIfInBounds_toArray,List.set_cons_zero,List.set_cons_succ]
    rfl
  refine pure_ (i:=3) (N:=some 3) (v:=?_) (a':=?_) #[true,true,true,true] rfl rfl (by kernel_rfl) (fun _ _ _ h=>h) (Or.inl ⟨by rfl,?_⟩) ?_ ?_
  rotate_left
  · intro w'
    go_simp
    try (with_reducible rfl)
  rotate_left
  · simp only [Act.put,List.setIfInBounds_toArray,List.set_cons_zero,List.set_cons_succ]
    rfl
  refine done_ (by kernel_rfl) ?_
  go_wp2
  have hKd:W.drew.heap[D]? = some (.deferred (some [])):=HK.out
  have hz:=Hz.out
  have hD:=HD.out
  have hne:∀ k,w6.heap.size ≤ k→k < W.drew.heap.size→(∃ cells q,W.drew.heap[k]? = some (.cells cells q (0,0)))→some k ≠ some D:=by
   rintro k _ _ ⟨cells,q,hc⟩ e
   injection e with e
   subst e
   rw [hKd] at hc
   cases hc
  have hSd:=Kd.S_grown (Kd.S_bound (Kd.S_drew HS2.out)) (grownBy_putObj' W.drew D (.deferred none)) (fun k hk=>hne k hk.2.1 hk.2.2.1 (by obtain ⟨_,_,_,q,_,cells,hc⟩:=hk;exact ⟨cells,q,hc⟩))
  refine ⟨by simp,.inl ⟨_,_,rfl,run_takeDeferred hKd,?_⟩⟩
  refine ⟨.tuple #[.slice Av xs.length cv,.int .i64 (endOf (xs.map (·.2)))],by simp [results,Try.results36,go_sem],?_⟩
  refine ⟨_,by rw [HS.out],?_,(below_drew HBb.out).trans (belowK_b (w:=w6) h06.size W.drew D _ _ hD hKd rfl rfl)⟩
  rw [← HS.out,List.map_map]
  exact Kd.S_lower (Kd.S_mono hSd (fun _ _=>trivial)) h06.size
end Go.Proofs.Ytfpdmlhknddffaa.Dk
end
section
namespace Go.Proofs.Ytfpdmlhknddffaa.Dk
open Go.RowKit Go.Proofs.YtfpdmlhknddffaaW.PrintWords Go.Proofs.YtfpdmlhknddffaaW.PrintLast Go.Proofs.YtfpdmlhknddffaaW.PrintMore
set_option linter.unusedVariables false
theorem journal_Records.calls (A0_0:Option Addr) (c0_0:Nat) (l0_0:List Int) (A0_1:Option Addr) (c0_1:Nat) (l0_1:List (S45)) (r1:List (List Int)) (r2:Int) (w:World) (hr0_0:Kd.C (Kd.int .u8) w A0_0 l0_0.length l0_0) (hc0_0:l0_0.length ≤ c0_0) (hr0_1:Kd.C k45 w A0_1 l0_1.length l0_1) (hc0_1:l0_1.length ≤ c0_1) (h:journal_Records.f l0_0 l0_1=some (r1,r2)) :
 Calls Try.prog 36 #[.agg #[.slice A0_0 l0_0.length c0_0,.slice A0_1 l0_1.length c0_1]] w fun e w'=>∃ v0_:Value,e=.returned (.tuple #[v0_,.int .i64 r2])∧Kd.S (Kd.slice 5 (Kd.int .u8)) 22 w' w.heap.size (fun _=>True) v0_ r1∧Below w.heap.size w w':=by
 unfold journal_Records.f at h
 cases hv:readOk l0_0 l0_1 0 (l0_0.length:Int)
 · rw [hv] at h
   injection h with h
   obtain ⟨rfl,rfl⟩:=h
   refine (Records_err _ _ l0_0 _ _ l0_1 w hr0_0 hc0_0 hr0_1 hc0_1 hv).mono ?_
   rintro e w' ⟨rfl,hb⟩
   exact ⟨_,rfl,Kd.S_nil _ _ _ _ _,hb⟩
 · rw [hv,if_pos rfl] at h
   cases ho:okBytes (readL l0_0 l0_1 0 (l0_0.length:Int))
   · rw [ho] at h
     cases h
   · rw [ho,if_pos rfl] at h
     injection h with h
     obtain ⟨rfl,rfl⟩:=h
     unfold okBytes at ho
     rw [Bool.and_eq_true,List.all_eq_true] at ho
     exact Records_ok _ _ l0_0 _ _ l0_1 w hr0_0 hc0_0 hr0_1 hc0_1 hv _ rfl (of_decide_eq_true ho.1) (fun x hx=>by have:=ho.2 x hx;simp at this;exact this)
end Go.Proofs.Ytfpdmlhknddffaa.Dk
end
section
namespace Go.Proofs.Ytfpdmlhknddffaa.Dk
open Go.RowKit Go.Proofs.YtfpdmlhknddffaaW.PrintWords Go.Proofs.YtfpdmlhknddffaaW.PrintLast Go.Proofs.YtfpdmlhknddffaaW.PrintMore
set_option linter.unusedVariables false
set_option linter.unusedSimpArgs false
set_option maxHeartbeats 1000000 in
theorem Append_arg (A0_0:Option Addr) (c0_0:Nat) (l0_0:List Int) (A0_1:Option Addr) (c0_1:Nat) (l0_1:List (S45)) (A1:Option Addr) (c1 n:Nat) (w:World) (hr0_0:Kd.C (Kd.int .u8) w A0_0 l0_0.length l0_0) (hc0_0:l0_0.length ≤ c0_0) (hr0_1:Kd.C k45 w A0_1 l0_1.length l0_1) (hc0_1:l0_1.length ≤ c0_1)
 (b:Bool) (Hok0:Hid (readOk l0_0 l0_1 0 0=b)) (hb:b=true→n=0) :
 Calls Try.prog 34 #[.agg #[.slice A0_0 l0_0.length c0_0,.slice A0_1 l0_1.length c0_1],.slice A1 n c1] w fun e w'=>e=.returned (.tuple #[.agg #[.slice none 0 0,.slice none 0 0],.int .i64 1])∧Below w.heap.size w w':=by
 have hu25:=Try.underlying25
 have fin:∀ (g2:Nat) (w3:World),w3.heap[g2]? = some (.cells #[.slice none 0 0,.slice none 0 0] 25 (0,0))→w.heap.size ≤ g2→Below w.heap.size w w3→∃ w4,w4=(w3.setCell ⟨g2,0,none⟩ (.slice none 0 0)).setCell ⟨g2,1,none⟩ (.slice none 0 0)∧w4.cell? ⟨g2,0,none⟩=some (.slice none 0 0)∧w4.cell? ⟨g2,1,none⟩=some (.slice none 0 0)∧Below w.heap.size w w4:=by
  intro g2 w3 h hg hB
  have hr2:=two_cells h (.slice none 0 0) (.slice none 0 0)
  exact ⟨_,rfl,(blk_cell hr2 0).trans rfl,(blk_cell hr2 1).trans rfl,(hB.setCell (p:=⟨g2,0,none⟩) hg _).setCell (p:=⟨g2,1,none⟩) hg _⟩
 have Hfin:=Lib.hid fin
 clear fin
 have Hrec:Hid (journal_Records.f l0_0 l0_1=some (([]:List (List Int)),0))∨True:=.inr trivial
 clear Hrec
 cases b
 · have Hhb:=Lib.hid hb
   clear hb
   go_enter Try.func34,Try.ntmps34
   go_wp2_with ((first|((with_reducible refine gate_dst (N:=2) rfl ?_);(refine box_event ?hg (N:=2) ?hd (cs:=#[.slice A0_0 l0_0.length c0_0,.slice A0_1 l0_1.length c0_1]) (t:=25) ?hr ?_);(case hd=>rfl);(case hg=>rfl);(case hr=>first|(go_simp;done)|(go_simp;rfl));intro g2 hg2 w1 hb1 hB1;have Hg2:Hid (w.heap.size ≤ g2):=(Lib.hid (by rw [hg2];exact Nat.le_refl _));have HB1:=Lib.hid hB1;have Hb1:=Lib.hid hb1;clear hb1 hB1 hg2)|((with_reducible refine gate_dst (N:=4) rfl ?_);(refine box_event ?hg (N:=4) ?hd (cs:=#[.slice none 0 0,.slice none 0 0]) (t:=25) ?hr ?_);(case hd=>rfl);(case hg=>rfl);(case hr=>first|(go_simp;done)|(go_simp;rfl));intro g4 hg4 w2 hb2 hB2;have Hg4:Hid (w.heap.size ≤ g4∧g2 < g4):=(Lib.hid (by rw [hg4];exact ⟨HB1.out.size,blk_lt Hb1.out⟩));have HB2:=Lib.hid (below_then HB1.out HB1.out.size hB2);have Hb2:=Lib.hid hb2;have Hb1:=Lib.hid (blk_below Hb1.out hB2);have k0:=(blk_cell Hb1.out 0).trans rfl;have k1:=(blk_cell Hb1.out 1).trans rfl;clear hb2 hB2 hg4)|(go_at_call 23;refine (disk_Read.calls A0_0 c0_0 l0_0 A0_1 c0_1 l0_1 0 0 _ _ w2 (Kd.C_below hr0_0 HB2.out) hc0_0 (Kd.C_below hr0_1 HB2.out) hc0_1 rfl).mono ?_;rintro e w3 ⟨v3,rfl,hr3,hB3⟩;obtain ⟨A3,c3,rfl⟩:=Kd.R_slice hr3;rw [Hok0.out];have HB3:=Lib.hid (below_then HB2.out HB2.out.size hB3);have Hb1:=Lib.hid (blk_below Hb1.out hB3);have Hb2:=Lib.hid (blk_below Hb2.out hB3);have k0:=(blk_cell Hb1.out 0).trans rfl;have k1:=(blk_cell Hb1.out 1).trans rfl;have k2:=(blk_cell Hb2.out 0).trans rfl;have k3:=(blk_cell Hb2.out 1).trans rfl;have kf2:=blk_frozen Hb2.out 0;have kf3:=blk_frozen Hb2.out 1;clear hr3 hB3)|(go_at_call 36;refine (journal_Records.calls A0_0 c0_0 l0_0 A0_1 c0_1 l0_1 _ _ w3 (Kd.C_below hr0_0 HB3.out) hc0_0 (Kd.C_below hr0_1 HB3.out) hc0_1 Hrec.out).mono ?_;rintro e w4 ⟨v4,rfl,hr4,hB4⟩;obtain ⟨A4,c4,rfl⟩:=Kd.S_slice hr4;rw [Hkk.out];have HB4:=Lib.hid (below_then HB3.out HB3.out.size hB4);have Hb1:=Lib.hid (blk_below Hb1.out hB4);have Hb2:=Lib.hid (blk_below Hb2.out hB4);have k0:=(blk_cell Hb1.out 0).trans rfl;have k1:=(blk_cell Hb1.out 1).trans rfl;have k2:=(blk_cell Hb2.out 0).trans rfl;have k3:=(blk_cell Hb2.out 1).trans rfl;have kf2:=blk_frozen Hb2.out 0;have kf3:=blk_frozen Hb2.out 1;clear hr4 hB4)))
   obtain ⟨w4,hw4,q0,q1,hB4⟩:=Hfin.out g4 w3 Hb2.out Hg4.out.1 HB3.out
   rw [← hw4]
   clear hw4 k0 k1 k2 k3 kf2 kf3
   exact bodyPost_ret (v:=.tuple #[.agg #[.slice none 0 0,.slice none 0 0],.int .i64 1]) (by simp [results,Try.results34,go_sem,q0,q1]) rfl ⟨rfl,hB4⟩
 · obtain rfl:n=0:=hb rfl
   clear hb
   go_enter Try.func34,Try.ntmps34
   go_wp2_with ((first|((with_reducible refine gate_dst (N:=2) rfl ?_);(refine box_event ?hg (N:=2) ?hd (cs:=#[.slice A0_0 l0_0.length c0_0,.slice A0_1 l0_1.length c0_1]) (t:=25) ?hr ?_);(case hd=>rfl);(case hg=>rfl);(case hr=>first|(go_simp;done)|(go_simp;rfl));intro g2 hg2 w1 hb1 hB1;have Hg2:Hid (w.heap.size ≤ g2):=(Lib.hid (by rw [hg2];exact Nat.le_refl _));have HB1:=Lib.hid hB1;have Hb1:=Lib.hid hb1;clear hb1 hB1 hg2)|((with_reducible refine gate_dst (N:=4) rfl ?_);(refine box_event ?hg (N:=4) ?hd (cs:=#[.slice none 0 0,.slice none 0 0]) (t:=25) ?hr ?_);(case hd=>rfl);(case hg=>rfl);(case hr=>first|(go_simp;done)|(go_simp;rfl));intro g4 hg4 w2 hb2 hB2;have Hg4:Hid (w.heap.size ≤ g4∧g2 < g4):=(Lib.hid (by rw [hg4];exact ⟨HB1.out.size,blk_lt Hb1.out⟩));have HB2:=Lib.hid (below_then HB1.out HB1.out.size hB2);have Hb2:=Lib.hid hb2;have Hb1:=Lib.hid (blk_below Hb1.out hB2);have k0:=(blk_cell Hb1.out 0).trans rfl;have k1:=(blk_cell Hb1.out 1).trans rfl;clear hb2 hB2 hg4)|(go_at_call 23;refine (disk_Read.calls A0_0 c0_0 l0_0 A0_1 c0_1 l0_1 0 0 _ _ w2 (Kd.C_below hr0_0 HB2.out) hc0_0 (Kd.C_below hr0_1 HB2.out) hc0_1 rfl).mono ?_;rintro e w3 ⟨v3,rfl,hr3,hB3⟩;obtain ⟨A3,c3,rfl⟩:=Kd.R_slice hr3;rw [Hok0.out];have HB3:=Lib.hid (below_then HB2.out HB2.out.size hB3);have Hb1:=Lib.hid (blk_below Hb1.out hB3);have Hb2:=Lib.hid (blk_below Hb2.out hB3);have k0:=(blk_cell Hb1.out 0).trans rfl;have k1:=(blk_cell Hb1.out 1).trans rfl;have k2:=(blk_cell Hb2.out 0).trans rfl;have k3:=(blk_cell Hb2.out 1).trans rfl;have kf2:=blk_frozen Hb2.out 0;have kf3:=blk_frozen Hb2.out 1;clear hr3 hB3)|(go_at_call 36;refine (journal_Records.calls A0_0 c0_0 l0_0 A0_1 c0_1 l0_1 _ _ w3 (Kd.C_below hr0_0 HB3.out) hc0_0 (Kd.C_below hr0_1 HB3.out) hc0_1 Hrec.out).mono ?_;rintro e w4 ⟨v4,rfl,hr4,hB4⟩;obtain ⟨A4,c4,rfl⟩:=Kd.S_slice hr4;rw [Hkk.out];have HB4:=Lib.hid (below_then HB3.out HB3.out.size hB4);have Hb1:=Lib.hid (blk_below Hb1.out hB4);have Hb2:=Lib.hid (blk_below Hb2.out hB4);have k0:=(blk_cell Hb1.out 0).trans rfl;have k1:=(blk_cell Hb1.out 1).trans rfl;have k2:=(blk_cell Hb2.out 0).trans rfl;have k3:=(blk_cell Hb2.out 1).trans rfl;have kf2:=blk_frozen Hb2.out 0;have kf3:=blk_frozen Hb2.out 1;clear hr4 hB4)))
   obtain ⟨w4,hw4,q0,q1,hB4⟩:=Hfin.out g4 w3 Hb2.out Hg4.out.1 HB3.out
   rw [← hw4]
   clear hw4 k0 k1 k2 k3 kf2 kf3
   exact bodyPost_ret (v:=.tuple #[.agg #[.slice none 0 0,.slice none 0 0],.int .i64 1]) (by simp [results,Try.results34,go_sem,q0,q1]) rfl ⟨rfl,hB4⟩
set_option maxHeartbeats 1000000 in
theorem Append_limit (A0_0:Option Addr) (c0_0:Nat) (l0_0:List Int) (A0_1:Option Addr) (c0_1:Nat) (l0_1:List (S45)) (A1:Option Addr) (c1 n:Nat) (w:World) (hr0_0:Kd.C (Kd.int .u8) w A0_0 l0_0.length l0_0) (hc0_0:l0_0.length ≤ c0_0) (hr0_1:Kd.C k45 w A0_1 l0_1.length l0_1) (hc0_1:l0_1.length ≤ c0_1)
 (Hok0:Hid (readOk l0_0 l0_1 0 0=true)) (hn:n ≠ 0) (hnm:n ≤ 140737488355328) (L:List (List Int)) (at_ kk:Nat) (Hrec:Hid (journal_Records.f l0_0 l0_1=some (L,(at_:Int)))) (Hkk:Hid (L.length=kk)) (hat:at_ ≤ 140737488355328) (h:4096 < n∨l0_0.length < at_ + 13 + n) :
 Calls Try.prog 34 #[.agg #[.slice A0_0 l0_0.length c0_0,.slice A0_1 l0_1.length c0_1],.slice A1 n c1] w fun e w'=>e=.returned (.tuple #[.agg #[.slice none 0 0,.slice none 0 0],.int .i64 2])∧Below w.heap.size w w':=by
 have hu25:=Try.underlying25
 have z0:((n:Int) == 0)=false:=by rw [beq_eq_false_iff_ne];omega
 have z1:((n:Int)=0)=False:=eq_false (by omega)
 have z1':(n=0)=False:=eq_false hn
 have e1:wrap64 ((at_:Int) + 13)=(at_:Int) + 13:=by unfold wrap64;omega
 have e2:wrap64 ((at_:Int) + 13 + (n:Int))=(at_:Int) + 13 + (n:Int):=by unfold wrap64;omega
 by_cases h4:4096 < n
 · have y0:decide ((n:Int) > 4096)=true:=decide_eq_true (by omega)
   have y1:((n:Int) > 4096)=True:=eq_true (by omega)
   have y2:(4096 < (n:Int))=True:=eq_true (by omega)
   have y3:(4096 < n)=True:=eq_true h4
   clear h
   go_enter Try.func34,Try.ntmps34
   go_wp2_with ((first|((with_reducible refine gate_dst (N:=2) rfl ?_);(refine box_event ?hg (N:=2) ?hd (cs:=#[.slice A0_0 l0_0.length c0_0,.slice A0_1 l0_1.length c0_1]) (t:=25) ?hr ?_);(case hd=>rfl);(case hg=>rfl);(case hr=>first|(go_simp;done)|(go_simp;rfl));intro g2 hg2 w1 hb1 hB1;have Hg2:Hid (w.heap.size ≤ g2):=(Lib.hid (by rw [hg2];exact Nat.le_refl _));have HB1:=Lib.hid hB1;have Hb1:=Lib.hid hb1;clear hb1 hB1 hg2)|((with_reducible refine gate_dst (N:=4) rfl ?_);(refine box_event ?hg (N:=4) ?hd (cs:=#[.slice none 0 0,.slice none 0 0]) (t:=25) ?hr ?_);(case hd=>rfl);(case hg=>rfl);(case hr=>first|(go_simp;done)|(go_simp;rfl));intro g4 hg4 w2 hb2 hB2;have Hg4:Hid (w.heap.size ≤ g4∧g2 < g4):=(Lib.hid (by rw [hg4];exact ⟨HB1.out.size,blk_lt Hb1.out⟩));have HB2:=Lib.hid (below_then HB1.out HB1.out.size hB2);have Hb2:=Lib.hid hb2;have Hb1:=Lib.hid (blk_below Hb1.out hB2);have k0:=(blk_cell Hb1.out 0).trans rfl;have k1:=(blk_cell Hb1.out 1).trans rfl;clear hb2 hB2 hg4)|(go_at_call 23;refine (disk_Read.calls A0_0 c0_0 l0_0 A0_1 c0_1 l0_1 0 0 _ _ w2 (Kd.C_below hr0_0 HB2.out) hc0_0 (Kd.C_below hr0_1 HB2.out) hc0_1 rfl).mono ?_;rintro e w3 ⟨v3,rfl,hr3,hB3⟩;obtain ⟨A3,c3,rfl⟩:=Kd.R_slice hr3;rw [Hok0.out];have HB3:=Lib.hid (below_then HB2.out HB2.out.size hB3);have Hb1:=Lib.hid (blk_below Hb1.out hB3);have Hb2:=Lib.hid (blk_below Hb2.out hB3);have k0:=(blk_cell Hb1.out 0).trans rfl;have k1:=(blk_cell Hb1.out 1).trans rfl;have k2:=(blk_cell Hb2.out 0).trans rfl;have k3:=(blk_cell Hb2.out 1).trans rfl;have kf2:=blk_frozen Hb2.out 0;have kf3:=blk_frozen Hb2.out 1;clear hr3 hB3)|(go_at_call 36;refine (journal_Records.calls A0_0 c0_0 l0_0 A0_1 c0_1 l0_1 _ _ w3 (Kd.C_below hr0_0 HB3.out) hc0_0 (Kd.C_below hr0_1 HB3.out) hc0_1 Hrec.out).mono ?_;rintro e w4 ⟨v4,rfl,hr4,hB4⟩;obtain ⟨A4,c4,rfl⟩:=Kd.S_slice hr4;rw [Hkk.out];have HB4:=Lib.hid (below_then HB3.out HB3.out.size hB4);have Hb1:=Lib.hid (blk_below Hb1.out hB4);have Hb2:=Lib.hid (blk_below Hb2.out hB4);have k0:=(blk_cell Hb1.out 0).trans rfl;have k1:=(blk_cell Hb1.out 1).trans rfl;have k2:=(blk_cell Hb2.out 0).trans rfl;have k3:=(blk_cell Hb2.out 1).trans rfl;have kf2:=blk_frozen Hb2.out 0;have kf3:=blk_frozen Hb2.out 1;clear hr4 hB4)))
   have hr2:=two_cells Hb2.out (.slice none 0 0) (.slice none 0 0)
   obtain ⟨w5,hw5⟩:∃ w5,w5=(w4.setCell ⟨g4,0,none⟩ (.slice none 0 0)).setCell ⟨g4,1,none⟩ (.slice none 0 0):=⟨_,rfl⟩
   rw [← hw5] at hr2 ⊢
   have q0:w5.cell? ⟨g4,0,none⟩=some (.slice none 0 0):=(blk_cell hr2 0).trans rfl
   have q1:w5.cell? ⟨g4,1,none⟩=some (.slice none 0 0):=(blk_cell hr2 1).trans rfl
   have hB5:Below w.heap.size w w5:=by rw [hw5];exact (HB4.out.setCell (p:=⟨g4,0,none⟩) Hg4.out.1 _).setCell (p:=⟨g4,1,none⟩) Hg4.out.1 _
   clear hw5 k0 k1 k2 k3 kf2 kf3
   exact bodyPost_ret (v:=.tuple #[.agg #[.slice none 0 0,.slice none 0 0],.int .i64 2]) (by simp [results,Try.results34,go_sem,q0,q1]) rfl ⟨rfl,hB5⟩
 · have y0:decide ((n:Int) > 4096)=false:=decide_eq_false (by omega)
   have y1:((n:Int) > 4096)=False:=eq_false (by omega)
   have y2:(4096 < (n:Int))=False:=eq_false (by omega)
   have y3:(4096 < n)=False:=eq_false h4
   have x0:((at_:Int) + 13 + (n:Int) > (l0_0.length:Int))=True:=eq_true (by omega)
   have x1:((l0_0.length:Int) < (at_:Int) + 13 + (n:Int))=True:=eq_true (by omega)
   clear h
   go_enter Try.func34,Try.ntmps34
   go_wp2_with ((first|((with_reducible refine gate_dst (N:=2) rfl ?_);(refine box_event ?hg (N:=2) ?hd (cs:=#[.slice A0_0 l0_0.length c0_0,.slice A0_1 l0_1.length c0_1]) (t:=25) ?hr ?_);(case hd=>rfl);(case hg=>rfl);(case hr=>first|(go_simp;done)|(go_simp;rfl));intro g2 hg2 w1 hb1 hB1;have Hg2:Hid (w.heap.size ≤ g2):=(Lib.hid (by rw [hg2];exact Nat.le_refl _));have HB1:=Lib.hid hB1;have Hb1:=Lib.hid hb1;clear hb1 hB1 hg2)|((with_reducible refine gate_dst (N:=4) rfl ?_);(refine box_event ?hg (N:=4) ?hd (cs:=#[.slice none 0 0,.slice none 0 0]) (t:=25) ?hr ?_);(case hd=>rfl);(case hg=>rfl);(case hr=>first|(go_simp;done)|(go_simp;rfl));intro g4 hg4 w2 hb2 hB2;have Hg4:Hid (w.heap.size ≤ g4∧g2 < g4):=(Lib.hid (by rw [hg4];exact ⟨HB1.out.size,blk_lt Hb1.out⟩));have HB2:=Lib.hid (below_then HB1.out HB1.out.size hB2);have Hb2:=Lib.hid hb2;have Hb1:=Lib.hid (blk_below Hb1.out hB2);have k0:=(blk_cell Hb1.out 0).trans rfl;have k1:=(blk_cell Hb1.out 1).trans rfl;clear hb2 hB2 hg4)|(go_at_call 23;refine (disk_Read.calls A0_0 c0_0 l0_0 A0_1 c0_1 l0_1 0 0 _ _ w2 (Kd.C_below hr0_0 HB2.out) hc0_0 (Kd.C_below hr0_1 HB2.out) hc0_1 rfl).mono ?_;rintro e w3 ⟨v3,rfl,hr3,hB3⟩;obtain ⟨A3,c3,rfl⟩:=Kd.R_slice hr3;rw [Hok0.out];have HB3:=Lib.hid (below_then HB2.out HB2.out.size hB3);have Hb1:=Lib.hid (blk_below Hb1.out hB3);have Hb2:=Lib.hid (blk_below Hb2.out hB3);have k0:=(blk_cell Hb1.out 0).trans rfl;have k1:=(blk_cell Hb1.out 1).trans rfl;have k2:=(blk_cell Hb2.out 0).trans rfl;have k3:=(blk_cell Hb2.out 1).trans rfl;have kf2:=blk_frozen Hb2.out 0;have kf3:=blk_frozen Hb2.out 1;clear hr3 hB3)|(go_at_call 36;refine (journal_Records.calls A0_0 c0_0 l0_0 A0_1 c0_1 l0_1 _ _ w3 (Kd.C_below hr0_0 HB3.out) hc0_0 (Kd.C_below hr0_1 HB3.out) hc0_1 Hrec.out).mono ?_;rintro e w4 ⟨v4,rfl,hr4,hB4⟩;obtain ⟨A4,c4,rfl⟩:=Kd.S_slice hr4;rw [Hkk.out];have HB4:=Lib.hid (below_then HB3.out HB3.out.size hB4);have Hb1:=Lib.hid (blk_below Hb1.out hB4);have Hb2:=Lib.hid (blk_below Hb2.out hB4);have k0:=(blk_cell Hb1.out 0).trans rfl;have k1:=(blk_cell Hb1.out 1).trans rfl;have k2:=(blk_cell Hb2.out 0).trans rfl;have k3:=(blk_cell Hb2.out 1).trans rfl;have kf2:=blk_frozen Hb2.out 0;have kf3:=blk_frozen Hb2.out 1;clear hr4 hB4)))
   have hr2:=two_cells Hb2.out (.slice none 0 0) (.slice none 0 0)
   obtain ⟨w5,hw5⟩:∃ w5,w5=(w4.setCell ⟨g4,0,none⟩ (.slice none 0 0)).setCell ⟨g4,1,none⟩ (.slice none 0 0):=⟨_,rfl⟩
   rw [← hw5] at hr2 ⊢
   have q0:w5.cell? ⟨g4,0,none⟩=some (.slice none 0 0):=(blk_cell hr2 0).trans rfl
   have q1:w5.cell? ⟨g4,1,none⟩=some (.slice none 0 0):=(blk_cell hr2 1).trans rfl
   have hB5:Below w.heap.size w w5:=by rw [hw5];exact (HB4.out.setCell (p:=⟨g4,0,none⟩) Hg4.out.1 _).setCell (p:=⟨g4,1,none⟩) Hg4.out.1 _
   clear hw5 k0 k1 k2 k3 kf2 kf3
   exact bodyPost_ret (v:=.tuple #[.agg #[.slice none 0 0,.slice none 0 0],.int .i64 2]) (by simp [results,Try.results34,go_sem,q0,q1]) rfl ⟨rfl,hB5⟩
end Go.Proofs.Ytfpdmlhknddffaa.Dk
end
section
namespace Go.Proofs.Ytfpdmlhknddffaa.Dk
open Go.RowKit Go.Proofs.YtfpdmlhknddffaaW.PrintWords Go.Proofs.YtfpdmlhknddffaaW.PrintLast Go.Proofs.YtfpdmlhknddffaaW.PrintMore
set_option linter.unusedVariables false
set_option linter.unusedSimpArgs false
theorem wrap_ok (x:Int) (h : -9223372036854775808 ≤ x) (h':x ≤ 9223372036854775807):wrap64 x=x:=by unfold wrap64;omega
theorem C_lit1 (W:World) (x:Int):Kd.C (Kd.int .u8) (W.alloc (.cells #[.int .u8 x] 5)) (some ⟨W.heap.size,0,none⟩) [x].length [x]:=by
 refine ⟨rfl,by simp,fun _=>⟨_,rfl,fun j p hj => ?_⟩⟩
 cases j with
 | succ j=>simp at hj
 | zero =>
  simp at hj
  subst hj
  exact ⟨[.int .u8 x],rfl,rfl,fun i u hu=>cell_one_new W (.int .u8 x) 5 _ u (by simpa [Kd.int,Kd.scalar] using hu)⟩
theorem boxed_disk {W W':World} {base b g4:Nat} {g:Nat} {c0 c1:Value} {v u:Value} {m:List Int} {q:List S45} {ok:Nat→Prop} (hb:W.heap[g]? = some (.cells #[c0,c1] 25 (0,0))) (hr:Kd.R (Kd.int .u8) 5 W b (fun _=>True) v m) (hs:Kd.S k45 45 W b ok u q) (hB:Below base W' W) (hg:base ≤ g) (hgb:base ≤ b) {c2 c3:Value} (h4:W.heap[g4]? = some (.cells #[c2,c3] 25 (0,0))) (hne:g ≠ g4) :
 ∃ Wn,Wn=(W.setCell ⟨g,0,none⟩ v).setCell ⟨g,1,none⟩ u∧Wn.heap[g]? = some (.cells #[v,u] 25 (0,0))∧Kd.R (Kd.int .u8) 5 Wn base (fun _=>True) v m∧Kd.S k45 45 Wn base ok u q∧Below base W' Wn∧Wn.heap[g4]? = some (.cells #[c2,c3] 25 (0,0)):=by
 refine ⟨_,rfl,two_cells hb v u,?_,?_,(hB.setCell (p:=⟨g,0,none⟩) hg _).setCell (p:=⟨g,1,none⟩) hg _,blk_far (blk_far h4 (Ne.symm hne) _) (Ne.symm hne) _⟩
 · exact Kd.R_lower (Kd.R_set (Kd.R_set hr hb (by decide) 0 _) (blk_put hb 0 _ rfl) (by decide) 1 _) hgb
 · exact Kd.S_lower (Kd.S_set (Kd.S_set hs hb (by decide) 0 _) (blk_put hb 0 _ rfl) (by decide) 1 _) hgb
set_option maxHeartbeats 4000000 in
set_option maxRecDepth 100000 in
theorem Append_ok (A0_0:Option Addr) (c0_0:Nat) (l0_0:List Int) (A0_1:Option Addr) (c0_1:Nat) (l0_1:List (S45)) (A1:Option Addr) (c1:Nat) (l1:List Int) (n:Nat) (w:World) (hr0_0:Kd.C (Kd.int .u8) w A0_0 l0_0.length l0_0) (hc0_0:l0_0.length ≤ c0_0) (hr0_1:Kd.C k45 w A0_1 l0_1.length l0_1) (hc0_1:l0_1.length ≤ c0_1)
 (hr1:Kd.C (Kd.int .u8) w A1 l1.length l1) (hc1:l1.length ≤ c1) (Hn:Hid (n=l1.length))
 (Hok0:Hid (readOk l0_0 l0_1 0 0=true)) (hn:n ≠ 0) (hn4:n ≤ 4096) (L:List (List Int)) (at_ kk:Nat) (Hrec:Hid (journal_Records.f l0_0 l0_1=some (L,(at_:Int)))) (Hkk:Hid (L.length=kk)) (hat:at_ + 13 + n ≤ l0_0.length) (hl0:l0_0.length ≤ 65536)
 (ke:Nat) (code rest:List Int) (nc:Nat) (Hke:Hid (journal_encode.f ke l1 (kk:Int)=some code)) (Hnc:Hid (code.length=nc)) (hnc:nc=13 + n) (Hrest:Hid (rest=if at_ + nc < l0_0.length then code.drop 1 ++ [0] else code.drop 1))
 (m0 m1 m2:List Int) (q0 q1 q2:List S45) (Hp1:Hid (journal_put.f l0_0 l0_1 (at_:Int) [0]=some (m0,q0,0))) (Hp2:Hid (journal_put.f m0 q0 ((at_:Int) + 1) rest=some (m1,q1,0))) (Hp3:Hid (journal_put.f m1 q1 (at_:Int) [82]=some (m2,q2,0))) :
 Calls Try.prog 34 #[.agg #[.slice A0_0 l0_0.length c0_0,.slice A0_1 l0_1.length c0_1],.slice A1 n c1] w fun e w'=>∃ v0_ v1_:Value,e=.returned (.tuple #[.agg #[v0_,v1_],.int .i64 0])∧Kd.R (Kd.int .u8) 5 w' w.heap.size (fun _=>True) v0_ m2∧Kd.S k45 45 w' w.heap.size (fun k_=>some k_ ≠ (v0_:Value).ownBlock) v1_ q2∧Below w.heap.size w w':=by
 have hu25:=Try.underlying25
 have hu22:=Try.underlying22
 obtain ⟨i5,hi5,hz5,hs5,hy5⟩:=info_parts info5
 have z0:((n:Int) == 0)=false:=by rw [beq_eq_false_iff_ne];omega
 have z1:((n:Int)=0)=False:=eq_false (by omega)
 have z1':(n=0)=False:=eq_false hn
 have y0:decide ((n:Int) > 4096)=false:=decide_eq_false (by omega)
 have y1:((n:Int) > 4096)=False:=eq_false (by omega)
 have y2:(4096 < (n:Int))=False:=eq_false (by omega)
 have y3:(4096 < n)=False:=eq_false (by omega)
 have x0:((at_:Int) + 13 + (n:Int) > (l0_0.length:Int))=False:=eq_false (by omega)
 have x1:((l0_0.length:Int) < (at_:Int) + 13 + (n:Int))=False:=eq_false (by omega)
 have Hhnc:=Lib.hid hnc
 have hncp:0 < nc:=by omega
 have Hn1:Hid ((1:Int) ≤ (nc:Int)):=Lib.hid (by omega)
 have Hl0:=Lib.hid hl0
 obtain ⟨e1,e2,e3,e4⟩:wrap64 ((at_:Int) + 13)=(at_:Int) + 13∧wrap64 ((at_:Int) + 13 + (n:Int))=(at_:Int) + 13 + (n:Int)∧wrap64 ((at_:Int) + (nc:Int))=(at_:Int) + (nc:Int)∧wrap64 ((at_:Int) + 1)=(at_:Int) + 1:=⟨wrap_ok _ (by omega) (by omega),wrap_ok _ (by omega) (by omega),wrap_ok _ (by omega) (by omega),wrap_ok _ (by omega) (by omega)⟩
 have Hat:=Lib.hid hat
 clear hnc hat hl0
 go_enter Try.func34,Try.ntmps34
 go_upto_region 9 with ((first|((with_reducible refine gate_dst (N:=2) rfl ?_);(refine box_event ?hg (N:=2) ?hd (cs:=#[.slice A0_0 l0_0.length c0_0,.slice A0_1 l0_1.length c0_1]) (t:=25) ?hr ?_);(case hd=>rfl);(case hg=>rfl);(case hr=>first|(go_simp;done)|(go_simp;rfl));intro g2 hg2 w1 hb1 hB1;have Hg2:Hid (w.heap.size ≤ g2):=(Lib.hid (by rw [hg2];exact Nat.le_refl _));have HB1:=Lib.hid hB1;have Hb1:=Lib.hid hb1;clear hb1 hB1 hg2)|((with_reducible refine gate_dst (N:=4) rfl ?_);(refine box_event ?hg (N:=4) ?hd (cs:=#[.slice none 0 0,.slice none 0 0]) (t:=25) ?hr ?_);(case hd=>rfl);(case hg=>rfl);(case hr=>first|(go_simp;done)|(go_simp;rfl));intro g4 hg4 w2 hb2 hB2;have Hg4:Hid (w.heap.size ≤ g4∧g2 < g4):=(Lib.hid (by rw [hg4];exact ⟨HB1.out.size,blk_lt Hb1.out⟩));have HB2:=Lib.hid (below_then HB1.out HB1.out.size hB2);have Hb2:=Lib.hid hb2;have Hb1:=Lib.hid (blk_below Hb1.out hB2);have k0:=(blk_cell Hb1.out 0).trans rfl;have k1:=(blk_cell Hb1.out 1).trans rfl;clear hb2 hB2 hg4)|(go_at_call 23;refine (disk_Read.calls A0_0 c0_0 l0_0 A0_1 c0_1 l0_1 0 0 _ _ w2 (Kd.C_below hr0_0 HB2.out) hc0_0 (Kd.C_below hr0_1 HB2.out) hc0_1 rfl).mono ?_;rintro e w3 ⟨v3,rfl,hr3,hB3⟩;obtain ⟨A3,c3,rfl⟩:=Kd.R_slice hr3;rw [Hok0.out];have HB3:=Lib.hid (below_then HB2.out HB2.out.size hB3);have Hb1:=Lib.hid (blk_below Hb1.out hB3);have Hb2:=Lib.hid (blk_below Hb2.out hB3);have k0:=(blk_cell Hb1.out 0).trans rfl;have k1:=(blk_cell Hb1.out 1).trans rfl;have k2:=(blk_cell Hb2.out 0).trans rfl;have k3:=(blk_cell Hb2.out 1).trans rfl;have kf2:=blk_frozen Hb2.out 0;have kf3:=blk_frozen Hb2.out 1;clear hr3 hB3)|(go_at_call 36;refine (journal_Records.calls A0_0 c0_0 l0_0 A0_1 c0_1 l0_1 _ _ w3 (Kd.C_below hr0_0 HB3.out) hc0_0 (Kd.C_below hr0_1 HB3.out) hc0_1 Hrec.out).mono ?_;rintro e w4 ⟨v4,rfl,hr4,hB4⟩;obtain ⟨A4,c4,rfl⟩:=Kd.S_slice hr4;rw [Hkk.out];have HB4:=Lib.hid (below_then HB3.out HB3.out.size hB4);have Hb1:=Lib.hid (blk_below Hb1.out hB4);have Hb2:=Lib.hid (blk_below Hb2.out hB4);have k0:=(blk_cell Hb1.out 0).trans rfl;have k1:=(blk_cell Hb1.out 1).trans rfl;have k2:=(blk_cell Hb2.out 0).trans rfl;have k3:=(blk_cell Hb2.out 1).trans rfl;have kf2:=blk_frozen Hb2.out 0;have kf3:=blk_frozen Hb2.out 1;clear hr4 hB4)|(go_at_call 51;refine (show Calls Try.prog 51 #[.slice A1 n c1,.int .i64 (kk:Int)] w4 _ from (by rw [Hn.out];exact journal_encode.calls ke A1 c1 l1 (kk:Int) code w4 (Kd.C_below hr1 HB4.out) hc1 Hke.out)).mono ?_;rintro e w5 ⟨v5,rfl,hr5,hB5⟩;obtain ⟨A5,c5,rfl⟩:=Kd.R_slice hr5;rw [Hnc.out] at hr5 ⊢;have hcut:=cut_from (P:=Try.prog) 22 5 .i64 hu22 hi5 1 hs5 A5 nc c5 1 (by decide) Hn1.out;obtain ⟨dp,hdp⟩:∃ dp,dp=(if c5=(1:Int).toNat then A5 else A5.map (·.add ((1:Int).toNat * 1))):=⟨_,rfl⟩;rw [← hdp] at hcut;have HQ5:Hid (Kd.Q (Kd.int .u8) 5 w5 w4.heap.size (fun _=>True) (.slice dp (nc - 1) (c5 - 1)) (code.drop 1)):=(Lib.hid (by rw [hdp];exact Kd.Q_drop (Kd.Q_of_R hr5) (by rw [Hnc.out];exact hncp)));have HB5:=Lib.hid (below_then HB4.out HB4.out.size hB5);have H45:=Lib.hid hB5;have Hb1:=Lib.hid (blk_below Hb1.out hB5);have Hb2:=Lib.hid (blk_below Hb2.out hB5);have k0:=(blk_cell Hb1.out 0).trans rfl;have k1:=(blk_cell Hb1.out 1).trans rfl;have k2:=(blk_cell Hb2.out 0).trans rfl;have k3:=(blk_cell Hb2.out 1).trans rfl;have kf2:=blk_frozen Hb2.out 0;have kf3:=blk_frozen Hb2.out 1;clear hr5 hB5 hdp)))
 have E4:=Lib.hid e4
 clear e1 e2 e4 x0 x1 y0 y1 y2 y3 z0 z1 z1' hn4 hncp hcut
 go_upto_if 59 with (fail)
 have hw45:w.heap.size ≤ w4.heap.size:=HB4.out.size
 have HQ6:=Lib.hid (Kd.Q_lower HQ5.out hw45)
 clear hw45 HQ5 e3
 go_cut [11] (fun v11 wc=>∃ (Ar:Option Addr) (nr cr:Nat),v11=.slice Ar nr cr∧Hid (nr=rest.length)∧Hid (Kd.Q (Kd.int .u8) 5 wc w.heap.size (fun _=>True) (.slice Ar nr cr) rest)∧Hid (wc.heap[g2]? = some (.cells #[.slice A0_0 l0_0.length c0_0,.slice A0_1 l0_1.length c0_1] 25 (0,0)))∧Hid (wc.heap[g4]? = some (.cells #[.slice none 0 0,.slice none 0 0] 25 (0,0)))∧Hid (Below w.heap.size w wc))
 case first =>
  by_cases hf:at_ + nc < l0_0.length
  · have f0:((at_:Int) + (nc:Int) < (l0_0.length:Int))=True:=eq_true (by have:=Hl0.out;omega)
    have Hr2:Hid (rest=code.drop 1 ++ [0]):=Lib.hid (by rw [Hrest.out,if_pos hf])
    have Hlen:Hid ((code.drop 1).length=nc - 1∧(code.drop 1).length + 1 ≤ 140737488355328):=Lib.hid (by have:=Hl0.out;rw [List.length_drop,Hnc.out];omega)
    go_wp2_with (first|((with_reducible refine gate_dst (N:=62) rfl ?_);refine Kd.Q_append (Kd.int .u8) (w0:=w5) (W:=w5) w.heap.size rfl (.tmp 60) (.tmp 61) 22 5 (.int .u8 0) 1 rfl hu22 info5 rfl (by decide) (by decide) (.slice dp (nc - 1) (c5 - 1)) (code.drop 1) 0 [.int .u8 0] (fun _=>True) (fun _=>False) rfl rfl rfl (fun _ h=>h.elim) (fun _ _=>trivial) HQ6.out ((Below.refl _ _).mono HB5.out.size) HB5.out.size (by rw [Nat.mul_one];exact Hlen.out.2) ?_;intro v11 w6 hq6 hb6 hg6 hat6;obtain ⟨A11,c11,rfl,_⟩:=Kd.Q_slice hq6;have Hq6:=Lib.hid hq6;have Hg6:=Lib.hid hg6;have Hb6:=Lib.hid hb6;clear hq6 hb6 hg6 hat6) )
    have hn11:rest.length=(code.drop 1 ++ [0]).length:=by rw [Hr2.out]
    go_meet
    case rel=>exact ⟨A11,_,c11,rfl,Lib.hid (by rw [Hr2.out];simp),Lib.hid (by have h:=Hq6.out;simp only [List.length_append,List.length_drop,List.length_singleton] at h;rw [← Hr2.out] at h;exact h),Lib.hid (blk_grown Hb1.out Hg6.out (Kd.Q_ne HQ6.out Hb1.out (by decide))),Lib.hid (blk_grown Hb2.out Hg6.out (Kd.Q_ne HQ6.out Hb2.out (by decide))),Lib.hid (HB5.out.trans Hb6.out)⟩
  · have f0:((at_:Int) + (nc:Int) < (l0_0.length:Int))=False:=eq_false (by have:=Hl0.out;omega)
    have Hr2:Hid (rest=code.drop 1):=Lib.hid (by rw [Hrest.out,if_neg hf])
    go_wp2
    go_meet
    case rel=>exact ⟨dp,nc - 1,c5 - 1,rfl,Lib.hid (by rw [Hr2.out,List.length_drop,Hnc.out]),Lib.hid (by rw [Hr2.out];exact HQ6.out),Hb1,Hb2,HB5⟩
 case rest =>
  obtain ⟨Ar,nr,cr,rfl,Hnr,HQ,Hc1,Hc2,HBc⟩:=hcut
  obtain rfl:=Hnr.out
  clear k0 k1 k2 k3 kf2 kf3 Hb1 Hb2 Hnr
  have hg24:g2 ≠ g4:=by have:=Hg4.out.2;omega
  have Hg24:=Lib.hid hg24
  have e4:=E4.out
  clear hg24
  have k0:=(blk_cell Hc1.out 0).trans rfl
  have k1:=(blk_cell Hc1.out 1).trans rfl
  go_upto_region 12 with (first|(go_at_call 52;refine (journal_put.calls A0_0 c0_0 l0_0 A0_1 c0_1 l0_1 (at_:Int) (some ⟨wc.heap.size,0,none⟩) 1 [0] _ _ _ (wc.alloc (.cells #[.int .u8 0] 5)) (Kd.C_below hr0_0 (HBc.out.alloc HBc.out.size _)) hc0_0 (Kd.C_below hr0_1 (HBc.out.alloc HBc.out.size _)) hc0_1 (C_lit1 wc 0) (by decide) Hp1.out).mono ?_;rintro e w6 ⟨v,u,rfl,hr,hs,hB⟩;obtain ⟨AR1,cR1,rfl⟩:=Kd.R_slice hr;obtain ⟨AS1,cS1,rfl⟩:=Kd.S_slice hs;have HR1:=Lib.hid hr;have HS1:=Lib.hid hs;have HB1x:=Lib.hid hB;have G21x:=Lib.hid (blk_below ((blk_below Hc1.out (below_alloc (Below.refl _ _) _)):(wc.alloc (.cells #[.int .u8 0] 5)).heap[g2]? = _) hB);have kf0:=blk_frozen G21x.out 0;have kf1:=blk_frozen G21x.out 1;have kk0:=(blk_cell G21x.out 0).trans rfl;have kk1:=(blk_cell G21x.out 1).trans rfl;clear hr hs hB k0 k1) )
  have hB6:Below w.heap.size w w6:=below_then (HBc.out.alloc HBc.out.size _) (HBc.out.alloc HBc.out.size _).size HB1x.out
  have G46:=blk_below (blk_below Hc2.out (below_alloc (Below.refl _ _) (.cells #[.int .u8 0] 5))) HB1x.out
  have HQ6:=Kd.Q_below (Kd.Q_alloc HQ.out (.cells #[.int .u8 0] 5)) HB1x.out
  obtain ⟨w7,hw7,G27,R7,S7,B7,G47⟩:=boxed_disk G21x.out HR1.out HS1.out hB6 Hg2.out (HBc.out.alloc HBc.out.size (.cells #[.int .u8 0] 5)).size G46 Hg24.out
  have HQ7:Kd.Q (Kd.int .u8) 5 w7 w.heap.size (fun _=>True) (.slice Ar rest.length cr) rest:=by
   rw [hw7]
   exact Kd.Q_set (Kd.Q_set HQ6 G21x.out (by decide) 0 _) (blk_put G21x.out 0 _ rfl) (by decide) 1 _
  rw [← hw7]
  have Q7:=Lib.hid HQ7
  have G27':=Lib.hid G27
  have G47':=Lib.hid G47
  have R7':=Lib.hid R7
  have S7':=Lib.hid S7
  have B7':=Lib.hid B7
  have k0:=(blk_cell G27 0).trans rfl
  have k1:=(blk_cell G27 1).trans rfl
  clear hB6 G46 HQ6 hw7 HQ7 G27 G47 R7 S7 B7 kf0 kf1 kk0 kk1
  go_upto_region 14 with (first|(go_at_call 52;refine (journal_put.calls AR1 cR1 m0 AS1 cS1 q0 ((at_:Int) + 1) Ar cr rest _ _ _ w7 (Kd.R_reads' R7'.out).2.2 (Kd.R_reads' R7'.out).2.1 (Kd.R_reads' (Kd.S_R S7'.out)).2.2 (Kd.R_reads' (Kd.S_R S7'.out)).2.1 (Kd.Q_reads' Q7.out).2.2 (Kd.Q_reads' Q7.out).2.1 Hp2.out).mono ?_;rintro e w8 ⟨v,u,rfl,hr,hs,hB⟩;obtain ⟨AR2,cR2,rfl⟩:=Kd.R_slice hr;obtain ⟨AS2,cS2,rfl⟩:=Kd.S_slice hs;have HR2:=Lib.hid hr;have HS2:=Lib.hid hs;have HB2x:=Lib.hid hB;have G22x:=Lib.hid (blk_below G27'.out hB);have kf0:=blk_frozen G22x.out 0;have kf1:=blk_frozen G22x.out 1;have kk0:=(blk_cell G22x.out 0).trans rfl;have kk1:=(blk_cell G22x.out 1).trans rfl;clear hr hs hB k0 k1) )
  have hB8:Below w.heap.size w w8:=below_then B7'.out B7'.out.size HB2x.out
  obtain ⟨w9,hw9,G29,R9,S9,B9,G49⟩:=boxed_disk G22x.out HR2.out HS2.out hB8 Hg2.out B7'.out.size (blk_below G47'.out HB2x.out) Hg24.out
  rw [← hw9]
  have G29':=Lib.hid G29
  have G49':=Lib.hid G49
  have R9':=Lib.hid R9
  have S9':=Lib.hid S9
  have B9':=Lib.hid B9
  have k0:=(blk_cell G29 0).trans rfl
  have k1:=(blk_cell G29 1).trans rfl
  clear hB8 hw9 G29 G49 R9 S9 B9 kf0 kf1 kk0 kk1 e4
  go_upto_region 16 with (first|(go_at_call 52;refine (journal_put.calls AR2 cR2 m1 AS2 cS2 q1 (at_:Int) (some ⟨w9.heap.size,0,none⟩) 1 [82] _ _ _ (w9.alloc (.cells #[.int .u8 82] 5)) (Kd.C_below (Kd.R_reads' R9'.out).2.2 (below_alloc (Below.refl _ _) _)) (Kd.R_reads' R9'.out).2.1 (Kd.C_below (Kd.R_reads' (Kd.S_R S9'.out)).2.2 (below_alloc (Below.refl _ _) _)) (Kd.R_reads' (Kd.S_R S9'.out)).2.1 (C_lit1 w9 82) (by decide) Hp3.out).mono ?_;rintro e w10 ⟨v,u,rfl,hr,hs,hB⟩;obtain ⟨AR3,cR3,rfl⟩:=Kd.R_slice hr;obtain ⟨AS3,cS3,rfl⟩:=Kd.S_slice hs;have HR3:=Lib.hid hr;have HS3:=Lib.hid hs;have HB3x:=Lib.hid hB;have G23x:=Lib.hid (blk_below ((blk_below G29'.out (below_alloc (Below.refl _ _) _)):(w9.alloc (.cells #[.int .u8 82] 5)).heap[g2]? = _) hB);have kf0:=blk_frozen G23x.out 0;have kf1:=blk_frozen G23x.out 1;have kk0:=(blk_cell G23x.out 0).trans rfl;have kk1:=(blk_cell G23x.out 1).trans rfl;clear hr hs hB k0 k1) )
  have hB9a:Below w.heap.size w (w9.alloc (.cells #[.int .u8 82] 5)):=B9'.out.alloc B9'.out.size _
  have hB10:Below w.heap.size w w10:=below_then hB9a hB9a.size HB3x.out
  obtain ⟨w11,hw11,G211,R11,S11,B11,G411⟩:=boxed_disk G23x.out HR3.out HS3.out hB10 Hg2.out hB9a.size (blk_below (blk_below G49'.out (below_alloc (Below.refl _ _) (.cells #[.int .u8 82] 5))) HB3x.out) Hg24.out
  rw [← hw11]
  have G211':=Lib.hid G211
  have G411':=Lib.hid G411
  have R11':=Lib.hid R11
  have S11':=Lib.hid S11
  have B11':=Lib.hid B11
  have k0:=(blk_cell G211 0).trans rfl
  have k1:=(blk_cell G211 1).trans rfl
  have k2:=(blk_cell G411 0).trans rfl
  have k3:=(blk_cell G411 1).trans rfl
  have kf2:=blk_frozen G411 0
  have kf3:=blk_frozen G411 1
  clear hB9a hB10 hw11 G211 G411 R11 S11 B11 kf0 kf1 kk0 kk1
  go_wp2
  obtain ⟨w12,hw12,G412,R12,S12,B12,_⟩:=boxed_disk G411'.out R11'.out S11'.out B11'.out Hg4.out.1 (Nat.le_refl _) G211'.out (Ne.symm Hg24.out)
  rw [← hw12]
  have j0:w12.cell? ⟨g4,0,none⟩=some (.slice AR3 m2.length cR3):=(blk_cell G412 0).trans rfl
  have j1:w12.cell? ⟨g4,1,none⟩=some (.slice AS3 q2.length cS3):=(blk_cell G412 1).trans rfl
  clear k0 k1 k2 k3 kf2 kf3
  exact bodyPost_ret (v:=.tuple #[.agg #[.slice AR3 m2.length cR3,.slice AS3 q2.length cS3],.int .i64 0]) (by simp [results,Try.results34,go_sem,j0,j1]) rfl ⟨_,_,rfl,R12,S12,B12⟩
end Go.Proofs.Ytfpdmlhknddffaa.Dk
end
section
namespace Go.Proofs.Ytfpdmlhknddffaa.Dk
open Go.RowKit Go.Proofs.YtfpdmlhknddffaaW.PrintWords Go.Proofs.YtfpdmlhknddffaaW.PrintLast Go.Proofs.YtfpdmlhknddffaaW.PrintMore
set_option linter.unusedVariables false
set_option linter.unusedSimpArgs false
def appRest (at_:Nat) (n:Nat) (code:List Int):List Int:=if at_ + code.length < n then code.drop 1 ++ [0] else code.drop 1
def journal_Append.f (l0_0:List Int) (l0_1:List (S45)) (l1:List Int):Option (List Int × (List (S45)) × Int) :=
 if l0_0.length ≤ 65536∧l1.length ≤ 140737488355328 then
  (if readOk l0_0 l0_1 0 0=true∧l1.length ≠ 0 then
   ((journal_Records.f l0_0 l0_1).bind fun b=>if 0 ≤ b.2∧b.2 ≤ 65536 then
    (if 4096 < l1.length∨l0_0.length < b.2.toNat + 13 + l1.length then some ([],[],2) else
     ((journal_put.f l0_0 l0_1 b.2 [0]).bind fun p=>if p.2.2=0 then
      ((journal_put.f p.1 p.2.1 (b.2 + 1) (appRest b.2.toNat l0_0.length (encL l1 (b.1.length:Int)))).bind fun p2=>if p2.2.2=0 then
       ((journal_put.f p2.1 p2.2.1 b.2 [82]).bind fun p3=>if p3.2.2=0 then some (p3.1,p3.2.1,0) else none) else none) else none)) else none)
  else some ([],[],1))
 else none
theorem journal_Append.calls (A0_0:Option Addr) (c0_0:Nat) (l0_0:List Int) (A0_1:Option Addr) (c0_1:Nat) (l0_1:List (S45)) (A1:Option Addr) (c1:Nat) (l1:List Int) (r1:List Int) (r2:List (S45)) (r3:Int) (w:World) (hr0_0:Kd.C (Kd.int .u8) w A0_0 l0_0.length l0_0) (hc0_0:l0_0.length ≤ c0_0) (hr0_1:Kd.C k45 w A0_1 l0_1.length l0_1) (hc0_1:l0_1.length ≤ c0_1) (hr1:Kd.C (Kd.int .u8) w A1 l1.length l1) (hc1:l1.length ≤ c1) (h:journal_Append.f l0_0 l0_1 l1=some (r1,r2,r3)) :
 Calls Try.prog 34 #[.agg #[.slice A0_0 l0_0.length c0_0,.slice A0_1 l0_1.length c0_1],.slice A1 l1.length c1] w fun e w'=>∃ v0_ v1_:Value,e=.returned (.tuple #[.agg #[v0_,v1_],.int .i64 r3])∧Kd.R (Kd.int .u8) 5 w' w.heap.size (fun _=>True) v0_ r1∧Kd.S k45 45 w' w.heap.size (fun k_=>some k_ ≠ (v0_:Value).ownBlock) v1_ r2∧Below w.heap.size w w':=by
 unfold journal_Append.f at h
 split at h
 · rename_i hl
   split at h
   · rename_i hok
     obtain ⟨⟨L,at_⟩,hrec,h⟩:=Option.bind_eq_some_iff.mp h
     dsimp only at h
     split at h
     · rename_i hat
       obtain ⟨a,rfl⟩:∃ a:Nat,at_=(a:Int):=⟨at_.toNat,by omega⟩
       rw [Int.toNat_natCast] at h
       split at h
       · rename_i hlim
         injection h with h
         obtain ⟨rfl,rfl,rfl⟩:=h
         refine (Append_limit A0_0 c0_0 l0_0 A0_1 c0_1 l0_1 A1 c1 l1.length w hr0_0 hc0_0 hr0_1 hc0_1 (Lib.hid hok.1) hok.2 (by omega) L a _ (Lib.hid hrec) (Lib.hid rfl) (by omega) hlim).mono ?_
         rintro e w' ⟨rfl,hb⟩
         exact ⟨_,_,rfl,Kd.R_nil _ _ _ _ _,Kd.S_nil _ _ _ _ _,hb⟩
       · rename_i hlim
         obtain ⟨⟨m0,q0,e0⟩,hp1,h⟩:=Option.bind_eq_some_iff.mp h
         try dsimp only at h
         split at h
         · rename_i he0
           try dsimp only at he0
           subst he0
           obtain ⟨⟨m1,q1,e1⟩,hp2,h⟩:=Option.bind_eq_some_iff.mp h
           try dsimp only at h
           split at h
           · rename_i he1
             try dsimp only at he1
             subst he1
             obtain ⟨⟨m2,q2,e2⟩,hp3,h⟩:=Option.bind_eq_some_iff.mp h
             try dsimp only at h
             split at h
             · rename_i he2
               try dsimp only at he2
               subst he2
               injection h with h
               obtain ⟨rfl,rfl,rfl⟩:=h
               obtain ⟨ke,hke⟩:=(encode_ev l1 (L.length:Int) (by omega)).rounds
               have hel:=encL_length l1 (L.length:Int)
               exact Append_ok A0_0 c0_0 l0_0 A0_1 c0_1 l0_1 A1 c1 l1 l1.length w hr0_0 hc0_0 hr0_1 hc0_1 hr1 hc1 (Lib.hid rfl) (Lib.hid hok.1) hok.2 (by omega) L a L.length (Lib.hid hrec) (Lib.hid rfl) (by omega) hl.1 ke (encL l1 (L.length:Int)) _ _ (Lib.hid hke) (Lib.hid hel) rfl (Lib.hid (by unfold appRest;rw [hel])) m0 m1 _ q0 q1 _ (Lib.hid hp1) (Lib.hid hp2) (Lib.hid hp3)
             · cases h
           · cases h
         · cases h
     · cases h
   · rename_i hok
     injection h with h
     obtain ⟨rfl,rfl,rfl⟩:=h
     refine (Append_arg A0_0 c0_0 l0_0 A0_1 c0_1 l0_1 A1 c1 l1.length w hr0_0 hc0_0 hr0_1 hc0_1 (readOk l0_0 l0_1 0 0) (Lib.hid rfl) (fun hb=>by by_cases hz:l1.length=0;exact hz;exact absurd ⟨hb,hz⟩ hok)).mono ?_
     rintro e w' ⟨rfl,hb⟩
     exact ⟨_,_,rfl,Kd.R_nil _ _ _ _ _,Kd.S_nil _ _ _ _ _,hb⟩
 · cases h
end Go.Proofs.Ytfpdmlhknddffaa.Dk
end
section
namespace Go.Proofs.Ytfpdmlhknddffaa.Dk
open Go.RowKit Go.Proofs.YtfpdmlhknddffaaW.PrintWords Go.Proofs.YtfpdmlhknddffaaW.PrintLast Go.Proofs.YtfpdmlhknddffaaW.PrintMore
attribute [local go_sem] field25 field25b
set_option linter.unusedVariables false
set_option linter.unusedSimpArgs false
def z100:List Int:=List.replicate 100 0
def z13:List Int:=List.replicate 13 0
def dA:List Int:=[82,0,1,0,0,47,8,47,166,81,57,64,74,97] ++ List.replicate 86 0
def dB:List Int:=[82,0,1,0,0,47,8,47,166,81,57,64,74,97,82,0,3,0,1,24,111,137,240,11,222,131,146,98,99,100] ++ List.replicate 70 0
theorem hd_new:disk_New.f 100=some (z100,[],0):=by kernel_rfl
theorem hd_new2:disk_New.f 13=some (z13,[],0):=by kernel_rfl
theorem hd_a:journal_Append.f z100 [] [97]=some (dA,[],0):=by kernel_rfl
theorem hd_b:journal_Append.f dA [] [98,99,100]=some (dB,[],0):=by kernel_rfl
theorem hd_c:journal_Append.f z13 [] [97]=some ([],[],2):=by kernel_rfl
theorem hd_d:journal_Append.f z100 [] []=some ([],[],1):=by kernel_rfl
theorem hd_r:journal_Records.f dB []=some ([[97],[98,99,100]],30):=by kernel_rfl
theorem hd_s:journal_Records.f z100 []=some ([],0):=by kernel_rfl
theorem append_n {A0 A1 A2:Option Addr} {c0 c1 c2 n0 n1 n2:Nat} (l0:List Int) (l1:List S45) (l2 r1:List Int) (r2:List S45) (r3:Int) (n m:Nat) (w:World) (e0:l0.length=n0) (e1:l1.length=n1) (e2:l2.length=n2) (e3:r1.length=n) (e4:r2.length=m)
 (h0:Kd.C (Kd.int .u8) w A0 n0 l0) (k0:n0 ≤ c0) (h1:Kd.C k45 w A1 n1 l1) (k1:n1 ≤ c1) (h2:Kd.C (Kd.int .u8) w A2 n2 l2) (k2:n2 ≤ c2) (h:journal_Append.f l0 l1 l2=some (r1,r2,r3)) :
 Calls Try.prog 34 #[.agg #[.slice A0 n0 c0,.slice A1 n1 c1],.slice A2 n2 c2] w fun e w'=>∃ A c B d,e=.returned (.tuple #[.agg #[.slice A n c,.slice B m d],.int .i64 r3])∧Kd.C (Kd.int .u8) w' A n r1∧n ≤ c∧Kd.C k45 w' B m r2∧m ≤ d∧Below w.heap.size w w':=by
 subst e0;subst e1;subst e2;subst e3;subst e4
 refine (journal_Append.calls A0 c0 l0 A1 c1 l1 A2 c2 l2 r1 r2 r3 w h0 k0 h1 k1 h2 k2 h).mono ?_
 rintro e w' ⟨v0,v1,rfl,hr,hs,hb⟩
 obtain ⟨A,c,rfl⟩:=Kd.R_slice hr
 obtain ⟨B,d,rfl⟩:=Kd.S_slice hs
 exact ⟨A,c,B,d,rfl,(Kd.R_reads' hr).2.2,(Kd.R_reads' hr).2.1,(Kd.R_reads' (Kd.S_R hs)).2.2,(Kd.R_reads' (Kd.S_R hs)).2.1,hb⟩
theorem new_n (a:Int) (r1:List Int) (r2:List S45) (n m:Nat) (w:World) (e3:r1.length=n) (e4:r2.length=m) (h:disk_New.f a=some (r1,r2,0)) :
 Calls Try.prog 17 #[.int .i64 a] w fun e w'=>∃ A c B d,e=.returned (.tuple #[.agg #[.slice A n c,.slice B m d],.int .i64 0])∧Kd.C (Kd.int .u8) w' A n r1∧n ≤ c∧Kd.C k45 w' B m r2∧m ≤ d∧Below w.heap.size w w':=by
 subst e3;subst e4
 refine (disk_New.calls a r1 r2 0 w h).mono ?_
 rintro e w' ⟨v0,v1,rfl,hr,hs,hb⟩
 obtain ⟨A,c,rfl⟩:=Kd.R_slice hr
 obtain ⟨B,d,rfl⟩:=Kd.S_slice hs
 exact ⟨A,c,B,d,rfl,(Kd.R_reads' hr).2.2,(Kd.R_reads' hr).2.1,(Kd.R_reads' (Kd.S_R hs)).2.2,(Kd.R_reads' (Kd.S_R hs)).2.1,hb⟩
theorem records_n {A0 A1:Option Addr} {c0 c1 n0 n1:Nat} (l0:List Int) (l1:List S45) (r1:List (List Int)) (r2:Int) (n:Nat) (w:World) (e0:l0.length=n0) (e1:l1.length=n1) (e3:r1.length=n)
 (h0:Kd.C (Kd.int .u8) w A0 n0 l0) (k0:n0 ≤ c0) (h1:Kd.C k45 w A1 n1 l1) (k1:n1 ≤ c1) (h:journal_Records.f l0 l1=some (r1,r2)) :
 Calls Try.prog 36 #[.agg #[.slice A0 n0 c0,.slice A1 n1 c1]] w fun e w'=>∃ A c,e=.returned (.tuple #[.slice A n c,.int .i64 r2])∧Kd.C (Kd.slice 5 (Kd.int .u8)) w' A n r1∧n ≤ c∧Below w.heap.size w w':=by
 subst e0;subst e1;subst e3
 refine (journal_Records.calls A0 c0 l0 A1 c1 l1 r1 r2 w h0 k0 h1 k1 h).mono ?_
 rintro e w' ⟨v0,rfl,hs,hb⟩
 obtain ⟨A,c,rfl⟩:=Kd.S_slice hs
 exact ⟨A,c,rfl,(Kd.R_reads' (Kd.S_R hs)).2.2,(Kd.R_reads' (Kd.S_R hs)).2.1,hb⟩
theorem conv_lit (w:World) (C:Array Value) (n c:Nat):(convert 22 22 (.slice (some ⟨w.heap.size,0,none⟩) n c)).run Try.prog (w.alloc (.cells C 5))=.ok (.slice (some ⟨w.heap.size,0,none⟩) n c) (w.alloc (.cells C 5 (C.size,C.size + 1))) :=
 Lib.run_convert_bytes_const w 22 5 C n c Try.underlying22 Try.underlying5
attribute [local go_sem] conv_lit
theorem C_blkf {k:IntKind} {e:Nat} {w:World} {fr:Nat × Nat} {xs:List Int} (hm:xs.length ≤ 9223372036854775807) {n:Nat} (hn:xs.length=n):Kd.C (Kd.int k) (w.alloc (.cells (xs.map (Value.int k)).toArray e fr)) (some ⟨w.heap.size,0,none⟩) n xs:=by
 subst hn
 refine ⟨rfl,hm,fun _=>⟨_,rfl,fun j p hj=>⟨[.int k p],rfl,rfl,fun i u hu => ?_⟩⟩⟩
 have hi:i=0:=by have:=(List.getElem?_eq_some_iff.1 hu).1;simpa using this
 subst hi
 rw [add_at,Nat.zero_add]
 refine (World.cell?_alloc_mark w _ e fr _).trans ?_
 show (xs.map (Value.int k)).toArray[j * 1 + 0]? = some u
 simp at hu
 simp [hj,hu]
theorem kept_n {k:IntKind} {w:World} {A:Option Addr} {n:Nat} {xs:List Int} (h:Kd.C (Kd.int k) w A n xs) (e:xs.length=n) (hn:0 < n):∃ ad,A=some ad∧∀ i,i < n→w.cell? (ad.add i)=some (.int k (xs.getD i 0)):=by
 subst e
 exact kept_at h hn
set_option maxHeartbeats 4000000 in
set_option maxRecDepth 100000 in
theorem head43_calls (w:World):Calls Try.prog 32 #[] w fun e w'=>e=.returned (.bool true)∧Below w.heap.size w w':=by
 have hu25:=Try.underlying25
 have hu22:=Try.underlying22
 have hu23:=Try.underlying23
 have hu49:=Try.underlying49
 have hu9:=Try.underlying9
 go_enter Try.func32,Try.ntmps32
 have HBW:=Lib.hid (Below.refl w.heap.size w)
 go_upto_region 2 with (first|(go_at_call 17;refine (new_n 100 z100 [] 100 0 _ (by decide) rfl hd_new).mono ?_;rintro e wa1 ⟨A1,c1,B1,d1,rfl,ha,hka,hbb,hkb,hb⟩;have CA1:=Lib.hid ha;have KA1:=Lib.hid hka;have CB1:=Lib.hid hbb;have KB1:=Lib.hid hkb;have HX1:Hid (Below w.heap.size w wa1):=Lib.hid hb;clear ha hka hbb hkb hb)|((with_reducible refine gate_dst (N:=1) rfl ?_);(refine box_event ?hg (N:=1) ?hd (cs:=#[.slice none 0 0,.slice none 0 0]) (t:=25) ?hr ?_);(case hd=>rfl);(case hg=>rfl);(case hr=>first|(go_simp;done)|(go_simp;rfl));intro g1 hg1 wb1 hbx hBx;have kf0:=blk_frozen hbx 0;have kf1:=blk_frozen hbx 1;have kf2:=(blk_cell hbx 0).trans rfl;have kf3:=(blk_cell hbx 1).trans rfl;have HG1:Hid (g1=wa1.heap.size):=Lib.hid hg1;have HY1:=Lib.hid hBx;have HZ1:=Lib.hid hbx;clear hbx hBx hg1) )
 obtain ⟨w1,hw1⟩:∃ W,W=((wb1.setCell ⟨g1,0,none⟩ (.slice A1 100 c1)).setCell ⟨g1,1,none⟩ (.slice B1 0 d1)):=⟨_,rfl⟩
 rw [← hw1]
 have D1:Hid (w1.heap[g1]? = some (.cells #[.slice A1 100 c1,.slice B1 0 d1] 25 (0,0))):=Lib.hid (by rw [hw1];exact two_cells HZ1.out _ _)
 have HV1:Hid (Below wa1.heap.size wa1 w1):=Lib.hid (by rw [hw1];exact (HY1.out.setCell (p:=⟨g1,0,none⟩) (Nat.le_of_eq HG1.out.symm) _).setCell (p:=⟨g1,1,none⟩) (Nat.le_of_eq HG1.out.symm) _)
 have HN1:Hid (Below w.heap.size w w1):=Lib.hid (below_then HX1.out HX1.out.size HV1.out)
 have CA1:=Lib.hid (Kd.C_below CA1.out HV1.out)
 have CB1:=Lib.hid (Kd.C_below CB1.out HV1.out)
 clear kf0 kf1 kf2 kf3 hw1
 have HBW:=Lib.hid (below_then HBW.out HBW.out.size HN1.out)
 have k0:=(blk_cell D1.out 0).trans rfl
 have k1:=(blk_cell D1.out 1).trans rfl
 go_upto_region 3 with (first|(go_at_call 34;refine (append_n (n0:=100) (n1:=0) (n2:=1) z100 [] [97] dA [] 0 100 0 (w1.alloc (.cells #[.int .u8 97] 5 (1,2))) (by decide) rfl rfl (by decide) rfl (Kd.C_below CA1.out (below_alloc (Below.refl _ _) _)) KA1.out (Kd.C_below CB1.out (below_alloc (Below.refl _ _) _)) KB1.out (C_blkf (xs:=[97]) (by decide) rfl) (by decide) hd_a).mono ?_;rintro e wa2 ⟨A2,c2,B2,d2,rfl,ha,hka,hbb,hkb,hb⟩;have CA2:=Lib.hid ha;have KA2:=Lib.hid hka;have CB2:=Lib.hid hbb;have KB2:=Lib.hid hkb;have HX2:Hid (Below w1.heap.size w1 wa2):=(Lib.hid (below_then (below_alloc (Below.refl _ _) _) (by simp) hb));clear ha hka hbb hkb hb)|((with_reducible refine gate_dst (N:=3) rfl ?_);(refine box_event ?hg (N:=3) ?hd (cs:=#[.slice none 0 0,.slice none 0 0]) (t:=25) ?hr ?_);(case hd=>rfl);(case hg=>rfl);(case hr=>first|(go_simp;done)|(go_simp;rfl));intro g2 hg2 wb2 hbx hBx;have kf0:=blk_frozen hbx 0;have kf1:=blk_frozen hbx 1;have kf2:=(blk_cell hbx 0).trans rfl;have kf3:=(blk_cell hbx 1).trans rfl;have HG2:Hid (g2=wa2.heap.size):=Lib.hid hg2;have HY2:=Lib.hid hBx;have HZ2:=Lib.hid hbx;clear hbx hBx hg2) )
 obtain ⟨w2,hw2⟩:∃ W,W=((wb2.setCell ⟨g2,0,none⟩ (.slice A2 100 c2)).setCell ⟨g2,1,none⟩ (.slice B2 0 d2)):=⟨_,rfl⟩
 rw [← hw2]
 have D2:Hid (w2.heap[g2]? = some (.cells #[.slice A2 100 c2,.slice B2 0 d2] 25 (0,0))):=Lib.hid (by rw [hw2];exact two_cells HZ2.out _ _)
 have HV2:Hid (Below wa2.heap.size wa2 w2):=Lib.hid (by rw [hw2];exact (HY2.out.setCell (p:=⟨g2,0,none⟩) (Nat.le_of_eq HG2.out.symm) _).setCell (p:=⟨g2,1,none⟩) (Nat.le_of_eq HG2.out.symm) _)
 have HN2:Hid (Below w1.heap.size w1 w2):=Lib.hid (below_then HX2.out HX2.out.size HV2.out)
 have CA2:=Lib.hid (Kd.C_below CA2.out HV2.out)
 have CB2:=Lib.hid (Kd.C_below CB2.out HV2.out)
 clear kf0 kf1 kf2 kf3 hw2 k0 k1
 have D1:=Lib.hid (blk_below D1.out HN2.out)
 have CA1:=Lib.hid (Kd.C_below CA1.out HN2.out)
 have CB1:=Lib.hid (Kd.C_below CB1.out HN2.out)
 have HBW:=Lib.hid (below_then HBW.out HBW.out.size HN2.out)
 have k0:=(blk_cell D2.out 0).trans rfl
 have k1:=(blk_cell D2.out 1).trans rfl
 go_upto_region 4 with (first|(go_at_call 34;refine (append_n (n0:=100) (n1:=0) (n2:=3) dA [] [98,99,100] dB [] 0 100 0 (w2.alloc (.cells #[.int .u8 98,.int .u8 99,.int .u8 100] 5 (3,4))) (by decide) rfl rfl (by decide) rfl (Kd.C_below CA2.out (below_alloc (Below.refl _ _) _)) KA2.out (Kd.C_below CB2.out (below_alloc (Below.refl _ _) _)) KB2.out (C_blkf (xs:=[98,99,100]) (by decide) rfl) (by decide) hd_b).mono ?_;rintro e wa3 ⟨A3,c3,B3,d3,rfl,ha,hka,hbb,hkb,hb⟩;have CA3:=Lib.hid ha;have KA3:=Lib.hid hka;have CB3:=Lib.hid hbb;have KB3:=Lib.hid hkb;have HX3:Hid (Below w2.heap.size w2 wa3):=(Lib.hid (below_then (below_alloc (Below.refl _ _) _) (by simp) hb));clear ha hka hbb hkb hb)|((with_reducible refine gate_dst (N:=5) rfl ?_);(refine box_event ?hg (N:=5) ?hd (cs:=#[.slice none 0 0,.slice none 0 0]) (t:=25) ?hr ?_);(case hd=>rfl);(case hg=>rfl);(case hr=>first|(go_simp;done)|(go_simp;rfl));intro g3 hg3 wb3 hbx hBx;have kf0:=blk_frozen hbx 0;have kf1:=blk_frozen hbx 1;have kf2:=(blk_cell hbx 0).trans rfl;have kf3:=(blk_cell hbx 1).trans rfl;have HG3:Hid (g3=wa3.heap.size):=Lib.hid hg3;have HY3:=Lib.hid hBx;have HZ3:=Lib.hid hbx;clear hbx hBx hg3) )
 obtain ⟨w3,hw3⟩:∃ W,W=((wb3.setCell ⟨g3,0,none⟩ (.slice A3 100 c3)).setCell ⟨g3,1,none⟩ (.slice B3 0 d3)):=⟨_,rfl⟩
 rw [← hw3]
 have D3:Hid (w3.heap[g3]? = some (.cells #[.slice A3 100 c3,.slice B3 0 d3] 25 (0,0))):=Lib.hid (by rw [hw3];exact two_cells HZ3.out _ _)
 have HV3:Hid (Below wa3.heap.size wa3 w3):=Lib.hid (by rw [hw3];exact (HY3.out.setCell (p:=⟨g3,0,none⟩) (Nat.le_of_eq HG3.out.symm) _).setCell (p:=⟨g3,1,none⟩) (Nat.le_of_eq HG3.out.symm) _)
 have HN3:Hid (Below w2.heap.size w2 w3):=Lib.hid (below_then HX3.out HX3.out.size HV3.out)
 have CA3:=Lib.hid (Kd.C_below CA3.out HV3.out)
 have CB3:=Lib.hid (Kd.C_below CB3.out HV3.out)
 clear kf0 kf1 kf2 kf3 hw3 k0 k1
 have D1:=Lib.hid (blk_below D1.out HN3.out)
 have CA1:=Lib.hid (Kd.C_below CA1.out HN3.out)
 have CB1:=Lib.hid (Kd.C_below CB1.out HN3.out)
 have D2:=Lib.hid (blk_below D2.out HN3.out)
 have CA2:=Lib.hid (Kd.C_below CA2.out HN3.out)
 have CB2:=Lib.hid (Kd.C_below CB2.out HN3.out)
 have HBW:=Lib.hid (below_then HBW.out HBW.out.size HN3.out)
 have k0:=(blk_cell D3.out 0).trans rfl
 have k1:=(blk_cell D3.out 1).trans rfl
 go_upto_region 5 with (first|(go_at_call 36;refine (records_n (n0:=100) (n1:=0) dB [] [[97],[98,99,100]] 30 2 w3 (by decide) rfl rfl CA3.out KA3.out CB3.out KB3.out hd_r).mono ?_;rintro e w4 ⟨A4,c4,rfl,ha,hka,hb⟩;have CR4:=Lib.hid ha;have KR4:=Lib.hid hka;have HN4:=Lib.hid hb;clear ha hka hb) )
 clear k0 k1
 have D1:=Lib.hid (blk_below D1.out HN4.out)
 have CA1:=Lib.hid (Kd.C_below CA1.out HN4.out)
 have CB1:=Lib.hid (Kd.C_below CB1.out HN4.out)
 have D2:=Lib.hid (blk_below D2.out HN4.out)
 have CA2:=Lib.hid (Kd.C_below CA2.out HN4.out)
 have CB2:=Lib.hid (Kd.C_below CB2.out HN4.out)
 have D3:=Lib.hid (blk_below D3.out HN4.out)
 have CA3:=Lib.hid (Kd.C_below CA3.out HN4.out)
 have CB3:=Lib.hid (Kd.C_below CB3.out HN4.out)
 have HBW:=Lib.hid (below_then HBW.out HBW.out.size HN4.out)
 have k0:=(blk_cell D1.out 0).trans rfl
 have k1:=(blk_cell D1.out 1).trans rfl
 go_upto_region 6 with (first|(go_at_call 36;refine (records_n (n0:=100) (n1:=0) z100 [] [] 0 0 w4 (by decide) rfl rfl CA1.out KA1.out CB1.out KB1.out hd_s).mono ?_;rintro e w5 ⟨A5,c5,rfl,ha,hka,hb⟩;have CR5:=Lib.hid ha;have KR5:=Lib.hid hka;have HN5:=Lib.hid hb;clear ha hka hb) )
 clear k0 k1
 have D1:=Lib.hid (blk_below D1.out HN5.out)
 have CA1:=Lib.hid (Kd.C_below CA1.out HN5.out)
 have CB1:=Lib.hid (Kd.C_below CB1.out HN5.out)
 have D2:=Lib.hid (blk_below D2.out HN5.out)
 have CA2:=Lib.hid (Kd.C_below CA2.out HN5.out)
 have CB2:=Lib.hid (Kd.C_below CB2.out HN5.out)
 have D3:=Lib.hid (blk_below D3.out HN5.out)
 have CA3:=Lib.hid (Kd.C_below CA3.out HN5.out)
 have CB3:=Lib.hid (Kd.C_below CB3.out HN5.out)
 have CR4:=Lib.hid (Kd.C_below CR4.out HN5.out)
 have HBW:=Lib.hid (below_then HBW.out HBW.out.size HN5.out)
 go_upto_region 7 with (first|(go_at_call 17;refine (new_n 13 z13 [] 13 0 _ (by decide) rfl hd_new2).mono ?_;rintro e wa6 ⟨A6,c6,B6,d6,rfl,ha,hka,hbb,hkb,hb⟩;have CA6:=Lib.hid ha;have KA6:=Lib.hid hka;have CB6:=Lib.hid hbb;have KB6:=Lib.hid hkb;have HX6:Hid (Below w5.heap.size w5 wa6):=Lib.hid hb;clear ha hka hbb hkb hb)|((with_reducible refine gate_dst (N:=11) rfl ?_);(refine box_event ?hg (N:=11) ?hd (cs:=#[.slice none 0 0,.slice none 0 0]) (t:=25) ?hr ?_);(case hd=>rfl);(case hg=>rfl);(case hr=>first|(go_simp;done)|(go_simp;rfl));intro g6 hg6 wb6 hbx hBx;have kf0:=blk_frozen hbx 0;have kf1:=blk_frozen hbx 1;have kf2:=(blk_cell hbx 0).trans rfl;have kf3:=(blk_cell hbx 1).trans rfl;have HG6:Hid (g6=wa6.heap.size):=Lib.hid hg6;have HY6:=Lib.hid hBx;have HZ6:=Lib.hid hbx;clear hbx hBx hg6) )
 obtain ⟨w6,hw6⟩:∃ W,W=((wb6.setCell ⟨g6,0,none⟩ (.slice A6 13 c6)).setCell ⟨g6,1,none⟩ (.slice B6 0 d6)):=⟨_,rfl⟩
 rw [← hw6]
 have D6:Hid (w6.heap[g6]? = some (.cells #[.slice A6 13 c6,.slice B6 0 d6] 25 (0,0))):=Lib.hid (by rw [hw6];exact two_cells HZ6.out _ _)
 have HV6:Hid (Below wa6.heap.size wa6 w6):=Lib.hid (by rw [hw6];exact (HY6.out.setCell (p:=⟨g6,0,none⟩) (Nat.le_of_eq HG6.out.symm) _).setCell (p:=⟨g6,1,none⟩) (Nat.le_of_eq HG6.out.symm) _)
 have HN6:Hid (Below w5.heap.size w5 w6):=Lib.hid (below_then HX6.out HX6.out.size HV6.out)
 have CA6:=Lib.hid (Kd.C_below CA6.out HV6.out)
 have CB6:=Lib.hid (Kd.C_below CB6.out HV6.out)
 clear kf0 kf1 kf2 kf3 hw6
 have D1:=Lib.hid (blk_below D1.out HN6.out)
 have CA1:=Lib.hid (Kd.C_below CA1.out HN6.out)
 have CB1:=Lib.hid (Kd.C_below CB1.out HN6.out)
 have D2:=Lib.hid (blk_below D2.out HN6.out)
 have CA2:=Lib.hid (Kd.C_below CA2.out HN6.out)
 have CB2:=Lib.hid (Kd.C_below CB2.out HN6.out)
 have D3:=Lib.hid (blk_below D3.out HN6.out)
 have CA3:=Lib.hid (Kd.C_below CA3.out HN6.out)
 have CB3:=Lib.hid (Kd.C_below CB3.out HN6.out)
 have CR4:=Lib.hid (Kd.C_below CR4.out HN6.out)
 have CR5:=Lib.hid (Kd.C_below CR5.out HN6.out)
 have HBW:=Lib.hid (below_then HBW.out HBW.out.size HN6.out)
 have k0:=(blk_cell D6.out 0).trans rfl
 have k1:=(blk_cell D6.out 1).trans rfl
 go_upto_region 8 with (first|(go_at_call 34;refine (append_n (n0:=13) (n1:=0) (n2:=1) z13 [] [97] [] [] 2 0 0 (w6.alloc (.cells #[.int .u8 97] 5 (1,2))) (by decide) rfl rfl (by decide) rfl (Kd.C_below CA6.out (below_alloc (Below.refl _ _) _)) KA6.out (Kd.C_below CB6.out (below_alloc (Below.refl _ _) _)) KB6.out (C_blkf (xs:=[97]) (by decide) rfl) (by decide) hd_c).mono ?_;rintro e wa7 ⟨A7,c7,B7,d7,rfl,ha,hka,hbb,hkb,hb⟩;have CA7:=Lib.hid ha;have KA7:=Lib.hid hka;have CB7:=Lib.hid hbb;have KB7:=Lib.hid hkb;have HX7:Hid (Below w6.heap.size w6 wa7):=(Lib.hid (below_then (below_alloc (Below.refl _ _) _) (by simp) hb));clear ha hka hbb hkb hb)|((with_reducible refine gate_dst (N:=13) rfl ?_);(refine box_event ?hg (N:=13) ?hd (cs:=#[.slice none 0 0,.slice none 0 0]) (t:=25) ?hr ?_);(case hd=>rfl);(case hg=>rfl);(case hr=>first|(go_simp;done)|(go_simp;rfl));intro g7 hg7 wb7 hbx hBx;have kf0:=blk_frozen hbx 0;have kf1:=blk_frozen hbx 1;have kf2:=(blk_cell hbx 0).trans rfl;have kf3:=(blk_cell hbx 1).trans rfl;have HG7:Hid (g7=wa7.heap.size):=Lib.hid hg7;have HY7:=Lib.hid hBx;have HZ7:=Lib.hid hbx;clear hbx hBx hg7) )
 obtain ⟨w7,hw7⟩:∃ W,W=((wb7.setCell ⟨g7,0,none⟩ (.slice A7 0 c7)).setCell ⟨g7,1,none⟩ (.slice B7 0 d7)):=⟨_,rfl⟩
 rw [← hw7]
 have D7:Hid (w7.heap[g7]? = some (.cells #[.slice A7 0 c7,.slice B7 0 d7] 25 (0,0))):=Lib.hid (by rw [hw7];exact two_cells HZ7.out _ _)
 have HV7:Hid (Below wa7.heap.size wa7 w7):=Lib.hid (by rw [hw7];exact (HY7.out.setCell (p:=⟨g7,0,none⟩) (Nat.le_of_eq HG7.out.symm) _).setCell (p:=⟨g7,1,none⟩) (Nat.le_of_eq HG7.out.symm) _)
 have HN7:Hid (Below w6.heap.size w6 w7):=Lib.hid (below_then HX7.out HX7.out.size HV7.out)
 have CA7:=Lib.hid (Kd.C_below CA7.out HV7.out)
 have CB7:=Lib.hid (Kd.C_below CB7.out HV7.out)
 clear kf0 kf1 kf2 kf3 hw7 k0 k1
 have D1:=Lib.hid (blk_below D1.out HN7.out)
 have CA1:=Lib.hid (Kd.C_below CA1.out HN7.out)
 have CB1:=Lib.hid (Kd.C_below CB1.out HN7.out)
 have D2:=Lib.hid (blk_below D2.out HN7.out)
 have CA2:=Lib.hid (Kd.C_below CA2.out HN7.out)
 have CB2:=Lib.hid (Kd.C_below CB2.out HN7.out)
 have D3:=Lib.hid (blk_below D3.out HN7.out)
 have CA3:=Lib.hid (Kd.C_below CA3.out HN7.out)
 have CB3:=Lib.hid (Kd.C_below CB3.out HN7.out)
 have CR4:=Lib.hid (Kd.C_below CR4.out HN7.out)
 have CR5:=Lib.hid (Kd.C_below CR5.out HN7.out)
 have D6:=Lib.hid (blk_below D6.out HN7.out)
 have CA6:=Lib.hid (Kd.C_below CA6.out HN7.out)
 have CB6:=Lib.hid (Kd.C_below CB6.out HN7.out)
 have HBW:=Lib.hid (below_then HBW.out HBW.out.size HN7.out)
 have k0:=(blk_cell D1.out 0).trans rfl
 have k1:=(blk_cell D1.out 1).trans rfl
 go_upto_region 9 with (first|(go_at_call 34;refine (append_n (n0:=100) (n1:=0) (n2:=0) z100 [] [] [] [] 1 0 0 w7 (by decide) rfl rfl (by decide) rfl CA1.out KA1.out CB1.out KB1.out ⟨rfl,by decide,fun h=>absurd h (by decide)⟩ (by decide) hd_d).mono ?_;rintro e wa8 ⟨A8,c8,B8,d8,rfl,ha,hka,hbb,hkb,hb⟩;have CA8:=Lib.hid ha;have KA8:=Lib.hid hka;have CB8:=Lib.hid hbb;have KB8:=Lib.hid hkb;have HX8:Hid (Below w7.heap.size w7 wa8):=Lib.hid hb;clear ha hka hbb hkb hb)|((with_reducible refine gate_dst (N:=15) rfl ?_);(refine box_event ?hg (N:=15) ?hd (cs:=#[.slice none 0 0,.slice none 0 0]) (t:=25) ?hr ?_);(case hd=>rfl);(case hg=>rfl);(case hr=>first|(go_simp;done)|(go_simp;rfl));intro g8 hg8 wb8 hbx hBx;have kf0:=blk_frozen hbx 0;have kf1:=blk_frozen hbx 1;have kf2:=(blk_cell hbx 0).trans rfl;have kf3:=(blk_cell hbx 1).trans rfl;have HG8:Hid (g8=wa8.heap.size):=Lib.hid hg8;have HY8:=Lib.hid hBx;have HZ8:=Lib.hid hbx;clear hbx hBx hg8) )
 obtain ⟨w8,hw8⟩:∃ W,W=((wb8.setCell ⟨g8,0,none⟩ (.slice A8 0 c8)).setCell ⟨g8,1,none⟩ (.slice B8 0 d8)):=⟨_,rfl⟩
 rw [← hw8]
 have D8:Hid (w8.heap[g8]? = some (.cells #[.slice A8 0 c8,.slice B8 0 d8] 25 (0,0))):=Lib.hid (by rw [hw8];exact two_cells HZ8.out _ _)
 have HV8:Hid (Below wa8.heap.size wa8 w8):=Lib.hid (by rw [hw8];exact (HY8.out.setCell (p:=⟨g8,0,none⟩) (Nat.le_of_eq HG8.out.symm) _).setCell (p:=⟨g8,1,none⟩) (Nat.le_of_eq HG8.out.symm) _)
 have HN8:Hid (Below w7.heap.size w7 w8):=Lib.hid (below_then HX8.out HX8.out.size HV8.out)
 have CA8:=Lib.hid (Kd.C_below CA8.out HV8.out)
 have CB8:=Lib.hid (Kd.C_below CB8.out HV8.out)
 clear kf0 kf1 kf2 kf3 hw8 k0 k1
 have D1:=Lib.hid (blk_below D1.out HN8.out)
 have CA1:=Lib.hid (Kd.C_below CA1.out HN8.out)
 have CB1:=Lib.hid (Kd.C_below CB1.out HN8.out)
 have D2:=Lib.hid (blk_below D2.out HN8.out)
 have CA2:=Lib.hid (Kd.C_below CA2.out HN8.out)
 have CB2:=Lib.hid (Kd.C_below CB2.out HN8.out)
 have D3:=Lib.hid (blk_below D3.out HN8.out)
 have CA3:=Lib.hid (Kd.C_below CA3.out HN8.out)
 have CB3:=Lib.hid (Kd.C_below CB3.out HN8.out)
 have CR4:=Lib.hid (Kd.C_below CR4.out HN8.out)
 have CR5:=Lib.hid (Kd.C_below CR5.out HN8.out)
 have D6:=Lib.hid (blk_below D6.out HN8.out)
 have CA6:=Lib.hid (Kd.C_below CA6.out HN8.out)
 have CB6:=Lib.hid (Kd.C_below CB6.out HN8.out)
 have D7:=Lib.hid (blk_below D7.out HN8.out)
 have CA7:=Lib.hid (Kd.C_below CA7.out HN8.out)
 have CB7:=Lib.hid (Kd.C_below CB7.out HN8.out)
 have HBW:=Lib.hid (below_then HBW.out HBW.out.size HN8.out)
 have k0:=(blk_cell D3.out 0).trans rfl
 have k1:=(blk_cell D3.out 1).trans rfl
 obtain ⟨ad4,x4,e4,hx4,⟨A41,c41,rfl,hc41,hC41⟩,hcell4⟩:=Kd.C_get CR4.out [] 0 (by decide) (by decide)
 obtain ⟨ad5,x5,e5,hx5,⟨A51,c51,rfl,hc51,hC51⟩,hcell5⟩:=Kd.C_get CR4.out [] 1 (by decide) (by decide)
 rw [e4] at e5
 injection e5 with e5
 subst e5
 subst e4
 have q0:w8.cell? ad4=some (.slice A41 1 c41):=hcell4 0 _ rfl
 have q1:w8.cell? ⟨ad4.block,ad4.off + 1,none⟩=some (.slice A51 3 c51):=hcell5 0 _ rfl
 have s1:(convert 22 9 (.slice A41 1 c41)).run Try.prog w8=.ok (.string (strOfNums [97])) w8:=Kd.C_string hu22 Try.underlying5 hu9 hC41
 have s2:(convert 22 9 (.slice A51 3 c51)).run Try.prog w8=.ok (.string (strOfNums [98,99,100])) w8:=Kd.C_string hu22 Try.underlying5 hu9 hC51
 have s3:strOfNums [97]={ data:=#[97] }:=by kernel_rfl
 have s4:strOfNums [98,99,100]={ data:=#[98,99,100] }:=by kernel_rfl
 obtain ⟨ad3,e3,hcell3⟩:=kept_n CA3.out (by decide) (by decide)
 subst e3
 have r0:w8.cell? ad3=some (.int .u8 82):=hcell3 0 (by decide)
 have r1:w8.cell? ⟨ad3.block,ad3.off + 1,none⟩=some (.int .u8 0):=hcell3 1 (by decide)
 have r2:w8.cell? ⟨ad3.block,ad3.off + 2,none⟩=some (.int .u8 1):=hcell3 2 (by decide)
 have r18:w8.cell? ⟨ad3.block,ad3.off + 18,none⟩=some (.int .u8 1):=hcell3 18 (by decide)
 have r30:w8.cell? ⟨ad3.block,ad3.off + 30,none⟩=some (.int .u8 0):=hcell3 30 (by decide)
 clear hcell3 hcell4 hcell5 hC41 hC51 hx4 hx5
 go_wp2
 go_ret
 exact ⟨rfl,HBW.out⟩
end Go.Proofs.Ytfpdmlhknddffaa.Dk
end
section
namespace Go.Proofs.Ytfpdmlhknddffaa.Dk
open Go.RowKit Go.Proofs.YtfpdmlhknddffaaW.PrintWords Go.Proofs.YtfpdmlhknddffaaW.PrintLast Go.Proofs.YtfpdmlhknddffaaW.PrintMore
attribute [local go_sem] field25 field25b max2_int min2_int max_two min_two max_three min_three max_four min_four
set_option linter.unusedVariables false
set_option linter.unusedSimpArgs false
end Go.Proofs.Ytfpdmlhknddffaa.Dk
end
section
namespace Go.Proofs.Ytfpdmlhknddffaa.Dk
open Go.RowKit Go.Proofs.YtfpdmlhknddffaaW.PrintWords Go.Proofs.YtfpdmlhknddffaaW.PrintLast Go.Proofs.YtfpdmlhknddffaaW.PrintMore
attribute [local go_sem] field25 field25b max2_int min2_int max_two min_two max_three min_three max_four min_four
set_option linter.unusedVariables false
set_option linter.unusedSimpArgs false
end Go.Proofs.Ytfpdmlhknddffaa.Dk
end
section
namespace Go.Proofs.Ytfpdmlhknddffaa.Dk
open Go.RowKit Go.Proofs.YtfpdmlhknddffaaW.PrintWords Go.Proofs.YtfpdmlhknddffaaW.PrintLast Go.Proofs.YtfpdmlhknddffaaW.PrintMore
set_option linter.unusedVariables false
set_option linter.unusedSimpArgs false
theorem u64_wrap (n:Int):IntKind.u64.wrap n=n % 18446744073709551616:=by simp [IntKind.wrap,IntKind.bits,IntKind.signed]
end Go.Proofs.Ytfpdmlhknddffaa.Dk
end
section
namespace Go.Proofs.Ytfpdmlhknddffaa.Dk
open Go.RowKit Go.Proofs.YtfpdmlhknddffaaW.PrintWords Go.Proofs.YtfpdmlhknddffaaW.PrintLast Go.Proofs.YtfpdmlhknddffaaW.PrintMore
set_option linter.unusedVariables false
set_option linter.unusedSimpArgs false
theorem numL2 (n:Int):numL 2 n=[n / 256 % 256,n % 256]:=by
 unfold numL
 simp [List.range_succ,shr,IntKind.bits]
theorem and16 (k:Int) (h0:0 ≤ k) (h1:k < 65536):Go.bits .and .i64 k 65535=k:=by
 have h:=bits_mask .i64 63 (by decide) wraps_i64 16 (by decide) k h0 (by omega)
 have e:(2:Int) ^ 16 - 1=65535:=by decide
 rw [e] at h
 rw [h]
 omega
theorem headL_eq (r:List Int) (k:Int) (h0:0 ≤ k) (h1:k < 65536) (hr:r.length < 65536):headL r k=[((r.length:Int) / 256) % 256,((r.length:Int)) % 256,(k / 256) % 256,k % 256]:=by
 unfold headL
 have e1:(r.length:Int) % 18446744073709551616=(r.length:Int):=Int.emod_eq_of_lt (by omega) (by omega)
 have e2:k % 18446744073709551616=k:=Int.emod_eq_of_lt h0 (by omega)
 rw [numL2,numL2,u64_wrap,and16 k h0 h1,u64_wrap,e1,e2]
 rfl
theorem same43_ev (a b:List Int) (ha:a.length ≤ 9223372036854775807):Ev (fun k=>wageofficeref43_Same.f k a b) (decide (a=b)):=by
 by_cases hl:a.length=b.length
 · have key:=ev_down (n:=a.length) (g:=fun i k=>wageofficeref43_Same.l0 k a b (i:Int)) (r:=fun i=>decide (a.drop i=b.drop i))
    (by
     refine Ev.step (f:=fun _=>some true) (fun k => ?_) (ev_eq (Ev.now true) (by simp [hl]))
     simp only [wageofficeref43_Same.l0]
     rw [if_neg (by omega)])
    (by
     intro i hi ih
     have hb:i < b.length:=by omega
     by_cases he:a[i]=b[i]
     · refine Ev.step (f:=fun k=>wageofficeref43_Same.l0 k a b ((i + 1:Nat):Int)) (fun k => ?_) (ev_eq ih ?_)
       · simp only [wageofficeref43_Same.l0]
         rw [if_pos (by omega),if_pos (by omega),if_pos (by omega),rd_nat hi,rd_nat hb,if_pos he,wrap_succ hi ha]
       · rw [List.drop_eq_getElem_cons hi,List.drop_eq_getElem_cons hb,he]
         simp only [List.cons.injEq,true_and]
     · refine Ev.step (f:=fun _=>some false) (fun k => ?_) (ev_eq (Ev.now false) ?_)
       · simp only [wageofficeref43_Same.l0]
         rw [if_pos (by omega),if_pos (by omega),if_pos (by omega),rd_nat hi,rd_nat hb,if_neg he]
       · rw [List.drop_eq_getElem_cons hi,List.drop_eq_getElem_cons hb]
         simp only [List.cons.injEq,he,false_and,decide_false])
    0 (by omega)
   refine Ev.congr (fun k => ?_) key
   unfold wageofficeref43_Same.f
   rw [if_pos (by omega)]
   rfl
 · refine Ev.congr (f:=fun _=>some false) (fun k => ?_) (ev_eq (Ev.now false) ?_)
   · unfold wageofficeref43_Same.f
     rw [if_neg (by omega)]
   · symm;rw [decide_eq_false_iff_not];intro h;exact hl (by rw [h])
theorem rdL2_nat {xs:List (List Int)} {i:Nat} (h:i < xs.length):rd_L2 xs (i:Int)=xs[i]:=by
 unfold rd_L2;simp [List.getD,h]
theorem sameAll_ev (a b:List (List Int)) (ha:a.length ≤ 9223372036854775807) (hx:∀ x ∈ a,x.length ≤ 9223372036854775807):Ev (fun k=>wageofficeref43_SameAll.f k a b) (decide (a=b)):=by
 by_cases hl:a.length=b.length
 · have key:=ev_down (n:=a.length) (g:=fun i k=>wageofficeref43_SameAll.l0 k a b (i:Int)) (r:=fun i=>decide (a.drop i=b.drop i))
    (by
     refine Ev.step (f:=fun _=>some true) (fun k => ?_) (ev_eq (Ev.now true) (by simp [hl]))
     simp only [wageofficeref43_SameAll.l0]
     rw [if_neg (by omega)])
    (by
     intro i hi ih
     have hb:i < b.length:=by omega
     have hs:=same43_ev a[i] b[i] (hx _ (List.getElem_mem _))
     refine Ev.step (f:=fun k=>(wageofficeref43_Same.f k a[i] b[i]).bind fun t=>if t=true then wageofficeref43_SameAll.l0 k a b ((i + 1:Nat):Int) else some false) (fun k => ?_) ?_
     · simp only [wageofficeref43_SameAll.l0]
       rw [if_pos (by omega),if_pos (by omega),if_pos (by omega),rdL2_nat hi,rdL2_nat hb,wrap_succ hi ha]
     · by_cases he:a[i]=b[i]
       · rw [decide_eq_true he] at hs
         refine ev_eq (Ev.bind (f:=fun k t=>if t=true then wageofficeref43_SameAll.l0 k a b ((i + 1:Nat):Int) else some false) hs (by simpa using ih)) ?_
         rw [List.drop_eq_getElem_cons hi,List.drop_eq_getElem_cons hb,he]
         simp only [List.cons.injEq,true_and]
       · rw [decide_eq_false he] at hs
         refine ev_eq (Ev.bind (f:=fun k t=>if t=true then wageofficeref43_SameAll.l0 k a b ((i + 1:Nat):Int) else some false) hs (r:=false) (by simpa using Ev.now false)) ?_
         rw [List.drop_eq_getElem_cons hi,List.drop_eq_getElem_cons hb]
         simp only [List.cons.injEq,he,false_and,decide_false])
    0 (by omega)
   refine Ev.congr (fun k => ?_) key
   unfold wageofficeref43_SameAll.f
   rw [if_pos (by omega)]
   rfl
 · refine Ev.congr (f:=fun _=>some false) (fun k => ?_) (ev_eq (Ev.now false) ?_)
   · unfold wageofficeref43_SameAll.f
     rw [if_neg (by omega)]
   · symm;rw [decide_eq_false_iff_not];intro h;exact hl (by rw [h])
end Go.Proofs.Ytfpdmlhknddffaa.Dk
end
section
namespace Go.Proofs.Ytfpdmlhknddffaa.Dk
open Go.RowKit Go.Proofs.YtfpdmlhknddffaaW.PrintWords Go.Proofs.YtfpdmlhknddffaaW.PrintLast Go.Proofs.YtfpdmlhknddffaaW.PrintMore
set_option linter.unusedVariables false
set_option linter.unusedSimpArgs false
theorem strNums_eq {a b:List Int} (ha:∀ x ∈ a,0 ≤ x∧x ≤ 255) (hb:∀ x ∈ b,0 ≤ x∧x ≤ 255):((strOfNums a).toList == (strOfNums b).toList)=decide (a=b):=by
 have hi:∀ (a b:List Int),(∀ x ∈ a,0 ≤ x∧x ≤ 255)→(∀ x ∈ b,0 ≤ x∧x ≤ 255)→(a.map fun n=>UInt8.ofNat n.toNat)=(b.map fun n=>UInt8.ofNat n.toNat)→a=b:=by
  intro a
  induction a with
  | nil=>intro b _ _ h;cases b with
   | nil=>rfl
   | cons y b=>simp at h
  | cons x a ih =>
   intro b h1 h2 h
   cases b with
   | nil=>simp at h
   | cons y b =>
    simp only [List.map_cons,List.cons.injEq] at h
    have hx:=h1 x (by simp)
    have hy:=h2 y (by simp)
    have e:=congrArg UInt8.toNat h.1
    simp at e
    have e2:x=y:=by omega
    rw [e2,ih b (fun z hz=>h1 z (by simp [hz])) (fun z hz=>h2 z (by simp [hz])) h.2]
 have e1:∀ xs:List Int,(strOfNums xs).toList=xs.map fun n=>UInt8.ofNat n.toNat:=fun xs=>Lib.strOfNums_toList xs
 rw [e1,e1]
 by_cases h:a=b
 · subst h
   simp
 · rw [decide_eq_false h,beq_eq_false_iff_ne]
   exact fun e=>h (hi a b ha hb e)
theorem encL_rng (r:List Int) (k:Int) (hr:∀ x ∈ r,0 ≤ x∧x ≤ 255):∀ x ∈ encL r k,0 ≤ x∧x ≤ 255:=by
 intro x hx
 have hn:∀ (s:Nat) (n:Int),∀ y ∈ numL s n,0 ≤ y∧y ≤ 255:=by
  intro s n y hy
  unfold numL at hy
  obtain ⟨j,_,rfl⟩:=List.mem_map.1 hy
  omega
 unfold encL headL at hx
 simp only [List.mem_append,List.mem_singleton] at hx
 rcases hx with ((h|h|h)|h)|h
 · omega
 · exact hn _ _ _ h
 · exact hn _ _ _ h
 · exact hn _ _ _ h
 · exact hr _ h
theorem seg_rng {b:List Int} (hb:∀ x ∈ b,0 ≤ x∧x ≤ 255) (i j:Nat):∀ x ∈ (b.take j).drop i,0 ≤ x∧x ≤ 255:=fun x hx=>hb x (List.mem_of_mem_take (List.mem_of_mem_drop hx))
theorem recEq_iff {b:List Int} (hb:∀ x ∈ b,0 ≤ x∧x ≤ 255) (k at_ n:Nat):recEq b k at_ n=decide (encL ((b.take (at_ + 13 + n)).drop (at_ + 13)) (k:Int)=(b.take (at_ + 13 + n)).drop at_):=by
 unfold recEq
 exact strNums_eq (encL_rng _ _ (seg_rng hb _ _)) (seg_rng hb _ _)
end Go.Proofs.Ytfpdmlhknddffaa.Dk
end
section
namespace Go.Proofs.Ytfpdmlhknddffaa.Dk
open Go.RowKit Go.Proofs.YtfpdmlhknddffaaW.PrintWords Go.Proofs.YtfpdmlhknddffaaW.PrintLast Go.Proofs.YtfpdmlhknddffaaW.PrintMore
set_option linter.unusedVariables false
end Go.Proofs.Ytfpdmlhknddffaa.Dk
end
section
namespace Go.Proofs.Ytfpdmlhknddffaa.Dk
open Go.RowKit Go.Proofs.YtfpdmlhknddffaaW.PrintWords Go.Proofs.YtfpdmlhknddffaaW.PrintLast Go.Proofs.YtfpdmlhknddffaaW.PrintMore
set_option linter.unusedVariables false
set_option linter.unusedSimpArgs false
def Byt (l0:List Int) (l1:List S45):Prop:=(∀ x ∈ l0,0 ≤ x∧x ≤ 255)∧∀ y ∈ l1,∀ x ∈ y.f1,0 ≤ x∧x ≤ 255
theorem splice_mem {α:Type} {L:List α} {off:Nat} {cs:List α} {x:α} (h:x ∈ splice L off cs):x ∈ L∨x ∈ cs:=by
 unfold splice at h
 simp only [List.mem_append] at h
 rcases h with h|h|h
 · exact .inl (List.mem_of_mem_take h)
 · exact .inr h
 · exact .inl (List.mem_of_mem_drop h)
theorem applyN_rng (f:Nat→Int) (l0:List Int) (l1:List S45) (hb:Byt l0 l1):∀ n,n ≤ l1.length→∀ x ∈ applyN f l1 l0 n,0 ≤ x∧x ≤ 255:=by
 intro n
 induction n with
 | zero=>intro _ x hx;exact hb.1 x hx
 | succ n ih =>
  intro hn x hx
  simp only [applyN] at hx
  rcases splice_mem hx with h|h
  · exact ih (by omega) x h
  · have hm:l1.getD n z45 ∈ l1:=by
     rw [List.getD_eq_getElem?_getD,List.getElem?_eq_getElem (by omega)]
     exact List.getElem_mem _
    exact hb.2 _ hm x (List.mem_of_mem_take h)
theorem sync_rng (l0:List Int) (l1:List S45) (hb:Byt l0 l1):∀ x ∈ syncL l0 l1,0 ≤ x∧x ≤ 255:=by
 intro x hx
 unfold syncL at hx
 split at hx
 · exact applyN_rng _ _ _ hb _ (Nat.le_refl _) x hx
 · simp at hx
theorem valid_len {l0:List Int} {l1:List S45} (hv:validB l0 l1=true):l0.length ≤ 65536:=((validB_iff _ _).1 hv).1
theorem read_whole (l0:List Int) (l1:List S45) (hv:validB l0 l1=true):readOk l0 l1 0 (l0.length:Int)=true∧readL l0 l1 0 (l0.length:Int)=syncL l0 l1:=by
 have h1:readOk l0 l1 0 (l0.length:Int)=true:=by unfold readOk;rw [hv,part_whole];rfl
 refine ⟨h1,?_⟩
 have hl:=sync_len l0 l1 hv
 unfold readL
 rw [if_pos h1]
 unfold syncL at hl ⊢
 rw [if_pos hv] at hl ⊢
 simp only [Int.zero_add,Int.toNat_natCast]
 rw [List.take_of_length_le (by omega)]
 rfl
theorem read_no (l0:List Int) (l1:List S45) (a c:Int) (hv:validB l0 l1=false):readOk l0 l1 a c=false:=by unfold readOk;rw [hv];rfl
theorem read_00 (l0:List Int) (l1:List S45):readOk l0 l1 0 0=validB l0 l1:=by
 unfold readOk
 rw [(isPartB_iff _ _ _).2 (by omega),Bool.and_true]
def jrecs (l0:List Int) (l1:List S45):List (List Int × Nat):=if validB l0 l1=true then recs (syncL l0 l1) else []
def fsts (L:List (List Int × Nat)):List (List Int):=L.map (·.1)
theorem records_eq {l0:List Int} {l1:List S45} (hb:Byt l0 l1):journal_Records.f l0 l1=some (fsts (jrecs l0 l1),endOf (jrecs l0 l1)):=by
 unfold journal_Records.f jrecs
 cases hv:validB l0 l1
 · rw [read_no _ _ _ _ hv]
   rfl
 · have ho:okBytes (syncL l0 l1)=true:=by
    unfold okBytes
    rw [Bool.and_eq_true,List.all_eq_true]
    refine ⟨decide_eq_true (by rw [sync_len _ _ hv];exact valid_len hv),fun x hx => ?_⟩
    have:=sync_rng _ _ hb x hx
    simp [this]
   rw [(read_whole _ _ hv).1,(read_whole _ _ hv).2,if_pos rfl,if_pos rfl,ho,if_pos rfl]
   rfl
def endN (L:List (List Int × Nat)) (a:Nat):Nat:=(L.getLast?.map (·.2)).getD a
theorem endN_cons (x:List Int × Nat) (L:List (List Int × Nat)) (a:Nat):endN (x :: L) a=endN L x.2:=by
 unfold endN
 cases L with
 | nil=>rfl
 | cons y L=>simp [List.getLast?_cons_cons,List.getLast?_cons]
theorem isRecs_end {b:List Int}:∀ (L:List (List Int × Nat)) (k at_:Nat),IsRecs b k at_ L→at_ ≤ b.length→at_ + 14 * L.length ≤ endN L at_∧endN L at_ ≤ b.length∧∀ x ∈ L,x.1.length ≤ 4096:=by
 intro L
 induction L with
 | nil=>intro k at_ _ h;exact ⟨by simp [endN],by simpa [endN] using h,by simp⟩
 | cons x L ih =>
  intro k at_ h hl
  have hx:=recAt_lt h.1
  obtain ⟨h1,h2,h3⟩:=ih _ _ h.2 hx.2.1
  rw [endN_cons]
  refine ⟨by simp only [List.length_cons];omega,h2,fun y hy => ?_⟩
  rcases List.mem_cons.1 hy with rfl|hy
  · exact hx.2.2.2
  · exact h3 y hy
theorem jrecs_facts {l0:List Int} {l1:List S45}:14 * (jrecs l0 l1).length ≤ endN (jrecs l0 l1) 0∧(validB l0 l1=true→endN (jrecs l0 l1) 0 ≤ l0.length)∧(endN (jrecs l0 l1) 0 ≤ 65536)∧(∀ x ∈ fsts (jrecs l0 l1),x.length ≤ 4096):=by
 unfold jrecs
 cases hv:validB l0 l1
 · exact ⟨by simp [endN],fun h=>(by cases h),by simp [endN],fun x hx=>by simp [fsts] at hx⟩
 · have h:=isRecs_end (recs (syncL l0 l1)) 0 0 (isRecs_recs _) (by omega)
   rw [sync_len _ _ hv] at h
   have:=valid_len hv
   refine ⟨by simpa using h.1,fun _=>h.2.1,by simpa using Nat.le_trans h.2.1 this,fun x hx => ?_⟩
   obtain ⟨y,hy,rfl⟩:=List.mem_map.1 hx
   exact h.2.2 y hy
end Go.Proofs.Ytfpdmlhknddffaa.Dk
end
section
namespace Go.Proofs.Ytfpdmlhknddffaa.Dk
open Go.RowKit Go.Proofs.YtfpdmlhknddffaaW.PrintWords Go.Proofs.YtfpdmlhknddffaaW.PrintLast Go.Proofs.YtfpdmlhknddffaaW.PrintMore
set_option linter.unusedVariables false
set_option linter.unusedSimpArgs false
theorem valid_nil {X:List Int} (h:X.length ≤ 65536):validB X []=true:=(validB_iff _ _).2 ⟨h,by simp,by simp⟩
theorem sync_nil (X:List Int) (h:X.length ≤ 65536):syncL X []=X:=by
 unfold syncL applyL
 rw [if_pos (valid_nil h)]
 rfl
theorem write_nil {X:List Int} (h:X.length ≤ 65536) (a:Nat) (d:List Int) (hd:a + d.length ≤ X.length):writeF X [] (a:Int) d=(X,[⟨(a:Int),d⟩],0):=by
 unfold writeF
 have hp:isPartB (X.length:Int) (a:Int) (d.length:Int)=true:=(isPartB_iff _ _ _).2 (by omega)
 rw [valid_nil h,hp]
 rfl
theorem sync_one {X:List Int} (h:X.length ≤ 65536) (a:Nat) (d:List Int) (hd:a + d.length ≤ X.length):syncL X [⟨(a:Int),d⟩]=splice X a d:=by
 have hp:isPartB (X.length:Int) (a:Int) (d.length:Int)=true:=(isPartB_iff _ _ _).2 (by omega)
 have hs:=sync_snoc X [] (a:Int) d (valid_nil h) (valid_snoc X [] (a:Int) d (valid_nil h) hp (by simp))
 rw [sync_nil X h] at hs
 simpa using hs
theorem put_eq {l0:List Int} {l1:List S45} (X:List Int) (hX:syncL l0 l1=X) (h:X.length ≤ 65536) (a:Nat) (d:List Int) (hd:a + d.length ≤ X.length):journal_put.f l0 l1 (a:Int) d=some (splice X a d,[],0):=by
 unfold journal_put.f disk_Sync.f disk_Write.f
 simp only [Option.bind_some]
 rw [hX,write_nil h a d hd]
 simp only [Option.bind_some]
 rw [if_pos trivial,sync_one h a d hd]
def appB (X:List Int) (a:Nat) (code:List Int):List Int:=splice (splice (splice X a [0]) (a + 1) (appRest a X.length code)) a [82]
def appL (l0:List Int) (l1:List S45) (r:List Int):List Int × List S45 × Int :=
 if validB l0 l1=true∧r.length ≠ 0 then
  (if 4096 < r.length∨l0.length < endN (jrecs l0 l1) 0 + 13 + r.length then ([],[],2)
   else (appB (syncL l0 l1) (endN (jrecs l0 l1) 0) (encL r ((jrecs l0 l1).length:Int)),[],0))
 else ([],[],1)
theorem appRest_len (a n:Nat) (code:List Int) (hc:1 ≤ code.length) (h:a + code.length ≤ n):a + 1 + (appRest a n code).length ≤ n:=by
 unfold appRest
 split
 · simp;omega
 · simp;omega
theorem append_eq {l0:List Int} {l1:List S45} (hb:Byt l0 l1) (r:List Int) (h0:l0.length ≤ 65536) (hr:r.length ≤ 140737488355328):journal_Append.f l0 l1 r=some (appL l0 l1 r):=by
 unfold journal_Append.f appL
 rw [if_pos ⟨h0,hr⟩,read_00]
 by_cases hc:validB l0 l1=true∧r.length ≠ 0
 · rw [if_pos hc,if_pos hc,records_eq hb]
   simp only [Option.bind_some]
   obtain ⟨f1,f2,f3,f4⟩:=jrecs_facts (l0:=l0) (l1:=l1)
   have he:endOf (jrecs l0 l1)=((endN (jrecs l0 l1) 0:Nat):Int):=rfl
   have hk:(fsts (jrecs l0 l1)).length=(jrecs l0 l1).length:=by simp [fsts]
   rw [he,if_pos (by omega),Int.toNat_natCast,hk]
   by_cases hl:4096 < r.length∨l0.length < endN (jrecs l0 l1) 0 + 13 + r.length
   · rw [if_pos hl,if_pos hl]
   · rw [if_neg hl,if_neg hl]
     obtain ⟨X,hX⟩:∃ X,X=syncL l0 l1:=⟨_,rfl⟩
     obtain ⟨a,ha⟩:∃ a,a=endN (jrecs l0 l1) 0:=⟨_,rfl⟩
     obtain ⟨code,hcd⟩:∃ code,code=encL r ((jrecs l0 l1).length:Int):=⟨_,rfl⟩
     have hXl:X.length=l0.length:=by rw [hX];exact sync_len _ _ hc.1
     have hcl:code.length=13 + r.length:=by rw [hcd];exact encL_length _ _
     rw [← hX,← ha,← hcd]
     rw [← ha] at hl f1 f2 f3
     have hrl:=appRest_len a X.length code (by omega) (by omega)
     have p1:=put_eq X hX.symm (by omega) a [0] (by simp;omega)
     have l1':(splice X a [0]).length=X.length:=splice_length _ _ _ (by simp;omega)
     have p2:=put_eq (l0:=splice X a [0]) (l1:=[]) (splice X a [0]) (sync_nil _ (by omega)) (by omega) (a + 1) (appRest a X.length code) (by omega)
     have l2':(splice (splice X a [0]) (a + 1) (appRest a X.length code)).length=X.length:=by rw [splice_length _ _ _ (by omega)];exact l1'
     have p3:=put_eq (l0:=splice (splice X a [0]) (a + 1) (appRest a X.length code)) (l1:=[]) _ (sync_nil _ (by omega)) (by omega) a [82] (by simp;omega)
     have e1:((a:Int) + 1)=((a + 1:Nat):Int):=rfl
     rw [p1]
     simp only [Option.bind_some]
     rw [if_pos trivial,e1,← hXl,p2]
     simp only [Option.bind_some]
     rw [if_pos trivial,p3]
     simp only [Option.bind_some]
     rw [if_pos trivial]
     rfl
 · rw [if_neg hc,if_neg hc]
end Go.Proofs.Ytfpdmlhknddffaa.Dk
end
section
namespace Go.Proofs.Ytfpdmlhknddffaa.Dk
open Go.RowKit Go.Proofs.YtfpdmlhknddffaaW.PrintWords Go.Proofs.YtfpdmlhknddffaaW.PrintLast Go.Proofs.YtfpdmlhknddffaaW.PrintMore
set_option linter.unusedVariables false
set_option linter.unusedSimpArgs false
theorem appL_nil (l0:List Int) (l1:List S45) (r:List Int):(appL l0 l1 r).2.1=[]:=by
 unfold appL
 split
 · split <;> rfl
 · rfl
theorem appB_len (X:List Int) (a:Nat) (code:List Int) (hc:1 ≤ code.length) (h:a + code.length ≤ X.length):(appB X a code).length=X.length:=by
 have hrl:=appRest_len a X.length code hc h
 have k1:(splice X a [0]).length=X.length:=splice_length _ _ _ (by simp;omega)
 have k2:(splice (splice X a [0]) (a + 1) (appRest a X.length code)).length=X.length:=by rw [splice_length _ _ _ (by omega)];exact k1
 unfold appB
 rw [splice_length _ _ _ (by simp;omega)]
 exact k2
end Go.Proofs.Ytfpdmlhknddffaa.Dk
end
section
namespace Go.Proofs.Ytfpdmlhknddffaa.Dk
open Go.RowKit Go.Proofs.YtfpdmlhknddffaaW.PrintWords Go.Proofs.YtfpdmlhknddffaaW.PrintLast Go.Proofs.YtfpdmlhknddffaaW.PrintMore
set_option linter.unusedVariables false
set_option linter.unusedSimpArgs false
theorem take_seg {b c:List Int} {m i j:Nat} (h:b.take m=c.take m) (hj:j ≤ m):(b.take j).drop i=(c.take j).drop i:=by
 have e:∀ l:List Int,l.take j=(l.take m).take j:=fun l=>by rw [List.take_take,Nat.min_eq_left hj]
 rw [e b,e c,h]
theorem take_at {b c:List Int} {m i:Nat} (h:b.take m=c.take m) (hi:i < m):b.getD i 0=c.getD i 0:=by
 have e:∀ l:List Int,l.getD i 0=(l.take m).getD i 0:=fun l=>by rw [List.getD_eq_getElem?_getD,List.getD_eq_getElem?_getD,List.getElem?_take_of_lt hi]
 rw [e b,e c,h]
theorem recAt_congr {b c:List Int} {m k at_:Nat} (h:b.take m=c.take m) (hl:b.length=c.length) {x:List Int × Nat} (hx:recAt b k at_=some x) (hm:x.2 ≤ m):recAt c k at_=some x:=by
 have h14:=recAt_lt hx
 have hn:numAt b at_=numAt c at_:=by
  unfold numAt
  rw [take_at h (by omega),take_at h (by omega)]
 unfold recAt at hx
 split at hx
 · rename_i hc
   injection hx with hx
   subst hx
   simp only at hm h14
   unfold recAt
   have hs1:=take_seg (i:=at_ + 13) h hm
   have hs2:=take_seg (i:=at_) h hm
   have he:recEq c k at_ (numAt b at_).toNat=true:=by
    rw [← hc.2.2.2.2]
    unfold recEq
    rw [hs1,hs2]
   rw [← hn,if_pos ⟨by omega,hc.2.1,hc.2.2.1,by omega,he⟩,hs1]
 · cases hx
end Go.Proofs.Ytfpdmlhknddffaa.Dk
end
section
namespace Go.Proofs.Ytfpdmlhknddffaa.Dk
open Go.RowKit Go.Proofs.YtfpdmlhknddffaaW.PrintWords Go.Proofs.YtfpdmlhknddffaaW.PrintLast Go.Proofs.YtfpdmlhknddffaaW.PrintMore
set_option linter.unusedVariables false
set_option linter.unusedSimpArgs false
theorem appB_eq (X:List Int) (a:Nat) (tail:List Int) (h:a + (82 :: tail).length ≤ X.length):appB X a (82 :: tail)=X.take a ++ (82 :: tail ++ (if a + (82 :: tail).length < X.length then 0 :: X.drop (a + (82 :: tail).length + 1) else [])):=by
 simp only [List.length_cons] at h ⊢
 have hta:(X.take a).length=a:=by rw [List.length_take];omega
 have e1:splice X a [0]=X.take a ++ (0 :: X.drop (a + 1)):=rfl
 have t1:∀ rest:List Int,a + 1 + rest.length ≤ X.length→splice (splice X a [0]) (a + 1) rest=X.take a ++ (0 :: (rest ++ X.drop (a + 1 + rest.length))):=by
  intro rest hr
  rw [e1]
  unfold splice
  have q1:(X.take a ++ (0 :: X.drop (a + 1))).take (a + 1)=X.take a ++ [0]:=by
   rw [List.take_append,hta,List.take_of_length_le (by omega)]
   have:a + 1 - a=1:=by omega
   rw [this]
   rfl
  have q2:(X.take a ++ (0 :: X.drop (a + 1))).drop (a + 1 + rest.length)=X.drop (a + 1 + rest.length):=by
   rw [List.drop_append,hta,List.drop_eq_nil_of_le (by omega),List.nil_append]
   have:a + 1 + rest.length - a=rest.length + 1:=by omega
   rw [this,List.drop_succ_cons,List.drop_drop]
   try rfl
  rw [q1,q2]
  simp
 have t2:∀ Y:List Int,splice (X.take a ++ (0 :: Y)) a [82]=X.take a ++ (82 :: Y):=by
  intro Y
  unfold splice
  rw [List.take_append,hta,List.take_of_length_le (by omega),Nat.sub_self,List.take_zero,List.append_nil,List.drop_append,hta,List.drop_eq_nil_of_le (by simp;omega)]
  have:a + [(82:Int)].length - a=1:=by simp
  rw [this]
  rfl
 unfold appB appRest
 simp only [List.length_cons,List.drop_succ_cons,List.drop_zero]
 by_cases hlt:a + (tail.length + 1) < X.length
 · rw [if_pos hlt,if_pos hlt,t1 _ (by simp;omega),t2]
   have e:a + 1 + (tail ++ [(0:Int)]).length=a + (tail.length + 1) + 1:=by simp;omega
   rw [e]
   simp
 · rw [if_neg hlt,if_neg hlt,t1 _ (by omega),t2]
   have e:X.drop (a + 1 + tail.length)=[]:=List.drop_eq_nil_of_le (by omega)
   rw [e]
   simp
theorem encL_cons (r:List Int) (k:Int):encL r k=82 :: (headL r k ++ numL 8 (sumS (strOfNums (headL r k) ++ strOfNums r)) ++ r):=by
 unfold encL
 simp
theorem recAt_mark {b:List Int} (hb:∀ x ∈ b,0 ≤ x∧x ≤ 255) {k at_:Nat} {x:List Int × Nat} (h:recAt b k at_=some x):b.getD at_ 0=82:=by
 unfold recAt at h
 split at h
 · rename_i hc
   have he:=hc.2.2.2.2
   rw [recEq_iff hb,decide_eq_true_eq] at he
   have h0:=congrArg (fun l:List Int=>l.getD 0 0) he
   have h1:((b.take (at_ + 13 + (numAt b at_).toNat)).drop at_).getD 0 0=b.getD at_ 0:=by
    rw [List.getD_eq_getElem?_getD,List.getElem?_drop,List.getElem?_take_of_lt (by omega),List.getD_eq_getElem?_getD]
    rfl
   rw [h1,encL_cons] at h0
   exact h0.symm
 · cases h
theorem isRecs_app {b c:List Int} {m:Nat} (h:b.take m=c.take m) (hl:b.length=c.length):∀ (L M:List (List Int × Nat)) (k at_:Nat),IsRecs b k at_ L→endN L at_ ≤ m→(∀ x ∈ L,x.2 ≤ m)→IsRecs c (k + L.length) (endN L at_) M→IsRecs c k at_ (L ++ M):=by
 intro L
 induction L with
 | nil=>intro M k at_ _ _ _ hM;simpa [endN] using hM
 | cons x L ih =>
  intro M k at_ hL he hx hM
  rw [endN_cons] at he hM
  refine ⟨recAt_congr h hl hL.1 (hx x (by simp)),ih M _ _ hL.2 he (fun y hy=>hx y (by simp [hy])) ?_⟩
  have e:k + (x :: L).length=k + 1 + L.length:=by simp;omega
  rw [← e]
  exact hM
theorem ends_le {b:List Int}:∀ (L:List (List Int × Nat)) (k at_:Nat),IsRecs b k at_ L→∀ x ∈ L,x.2 ≤ endN L at_:=by
 intro L
 induction L with
 | nil=>intro _ _ _ x hx;simp at hx
 | cons y L ih =>
  intro k at_ hL x hx
  rw [endN_cons]
  rcases List.mem_cons.1 hx with rfl|hx
  · cases L with
    | nil=>simp [endN]
    | cons z L =>
     have h1:=ih _ _ hL.2 z (by simp)
     have h2:=recAt_lt hL.2.1
     omega
  · exact ih _ _ hL.2 x hx
theorem recAt_new {b:List Int} {k a:Nat} {r u v:List Int} (hb:b=u ++ (encL r (k:Int) ++ v)) (hu:u.length=a) (h0:0 < r.length) (h4:r.length ≤ 4096) (hk:k < 65536) (hrng:∀ x ∈ b,0 ≤ x∧x ≤ 255):recAt b k a=some (r,a + 13 + r.length):=by
 have hcl:=encL_length r (k:Int)
 have hbl:b.length=a + (13 + r.length) + v.length:=by rw [hb];simp [hu,hcl];omega
 have hget:∀ i,i < 13 + r.length→b.getD (a + i) 0=(encL r (k:Int)).getD i 0:=by
  intro i hi
  rw [List.getD_eq_getElem?_getD,List.getD_eq_getElem?_getD,hb,List.getElem?_append_right (by omega),List.getElem?_append_left (by omega),hu]
  congr 2
  omega
 have hhd:=headL_eq r (k:Int) (by omega) (by omega) (by omega)
 have g1:b.getD (a + 1) 0=((r.length:Int) / 256) % 256:=by rw [hget 1 (by omega),encL_cons,hhd];rfl
 have g2:b.getD (a + 2) 0=(r.length:Int) % 256:=by rw [hget 2 (by omega),encL_cons,hhd];rfl
 have en:=numAt_eq (byte_at hrng (a + 1)) (byte_at hrng (a + 2))
 have hn:numAt b a=((r.length:Nat):Int):=by rw [en,g1,g2];omega
 have htk:b.take (a + 13 + r.length)=u ++ encL r (k:Int):=by
  rw [hb,← List.append_assoc,List.take_append_of_le_length (by rw [List.length_append,hu,hcl];omega),List.take_of_length_le (by rw [List.length_append,hu,hcl];omega)]
 have hs2:(b.take (a + 13 + r.length)).drop a=encL r (k:Int):=by rw [htk,← hu,List.drop_left]
 have hs1:(b.take (a + 13 + r.length)).drop (a + 13)=r:=by
  rw [htk]
  have e:u ++ encL r (k:Int)=(u ++ ([82] ++ headL r (k:Int) ++ numL 8 (sumS (strOfNums (headL r (k:Int)) ++ strOfNums r)))) ++ r:=by unfold encL;simp
  have hl2:(u ++ ([82] ++ headL r (k:Int) ++ numL 8 (sumS (strOfNums (headL r (k:Int)) ++ strOfNums r)))).length=a + 13:=by simp [hu,headL_length,numL_length]
  rw [e,← hl2,List.drop_left]
 have he:recEq b k a r.length=true:=by
  rw [recEq_iff hrng,hs1,hs2]
  simp
 have:=recAt_some_of hn (by omega) h0 h4 (by omega) he
 rw [hs1] at this
 exact this
theorem recs_app {l0:List Int} {l1:List S45} (hv:validB l0 l1=true) (hb:Byt l0 l1) (r:List Int) (hr:∀ x ∈ r,0 ≤ x∧x ≤ 255) (h0:r.length ≠ 0) (h4:r.length ≤ 4096) (hfit:endN (jrecs l0 l1) 0 + 13 + r.length ≤ l0.length) :
 (appL l0 l1 r).2.2=0∧(appL l0 l1 r).1.length=l0.length∧(∀ x ∈ (appL l0 l1 r).1,0 ≤ x∧x ≤ 255)∧(appL l0 l1 r).1.take (endN (jrecs l0 l1) 0)=(syncL l0 l1).take (endN (jrecs l0 l1) 0) ∧
  jrecs (appL l0 l1 r).1 []=jrecs l0 l1 ++ [(r,endN (jrecs l0 l1) 0 + 13 + r.length)]:=by
 have hl0:=valid_len hv
 have hsl:=sync_len l0 l1 hv
 obtain ⟨f1,f2,f3,f4⟩:=jrecs_facts (l0:=l0) (l1:=l1)
 have hIs:IsRecs (syncL l0 l1) 0 0 (jrecs l0 l1):=by unfold jrecs;rw [if_pos hv];exact isRecs_recs _
 have hsr:=sync_rng l0 l1 hb
 unfold appL
 rw [if_pos ⟨hv,h0⟩,if_neg (by omega)]
 obtain ⟨L,hL⟩:∃ L,L=jrecs l0 l1:=⟨_,rfl⟩
 rw [← hL] at hfit f1 f2 f3 hIs ⊢
 obtain ⟨X,hX⟩:∃ X,X=syncL l0 l1:=⟨_,rfl⟩
 rw [← hX] at hsl hIs hsr ⊢
 obtain ⟨a,ha⟩:∃ a,a=endN L 0:=⟨_,rfl⟩
 rw [← ha] at hfit f1 f2 f3 ⊢
 have hcl:=encL_length r (L.length:Int)
 have heq:=appB_eq X a (headL r (L.length:Int) ++ numL 8 (sumS (strOfNums (headL r (L.length:Int)) ++ strOfNums r)) ++ r) (by rw [← encL_cons,hcl];omega)
 rw [← encL_cons,hcl] at heq
 obtain ⟨v,hvv⟩:∃ v,v=(if a + (13 + r.length) < X.length then 0 :: X.drop (a + (13 + r.length) + 1) else []):=⟨_,rfl⟩
 rw [← hvv] at heq
 obtain ⟨Y,hY⟩:∃ Y,Y=appB X a (encL r (L.length:Int)):=⟨_,rfl⟩
 rw [← hY] at heq ⊢
 have hlen:Y.length=X.length:=by rw [hY];exact appB_len X a _ (by omega) (by omega)
 have hta:(X.take a).length=a:=by rw [List.length_take];omega
 have htake:Y.take a=X.take a:=by rw [heq,List.take_append_of_le_length (by omega),List.take_of_length_le (by omega)]
 have hrng:∀ x ∈ Y,0 ≤ x∧x ≤ 255:=by
  intro x hx
  rw [heq] at hx
  simp only [List.mem_append] at hx
  rcases hx with h|h|h
  · exact hsr x (List.mem_of_mem_take h)
  · exact encL_rng r _ hr x h
  · rw [hvv] at h
    split at h
    · rcases List.mem_cons.1 h with rfl|h
      · omega
      · exact hsr x (List.mem_of_mem_drop h)
    · simp at h
 refine ⟨rfl,by show Y.length=_;omega,hrng,htake,?_⟩
 have hnew:=recAt_new (k:=L.length) heq hta (by omega) h4 (by omega) hrng
 have hnone:recAt Y (L.length + 1) (a + 13 + r.length)=none:=by
  cases hz:recAt Y (L.length + 1) (a + 13 + r.length) with
  | none=>rfl
  | some z =>
   exfalso
   have hm:=recAt_mark hrng hz
   have h14:=recAt_lt hz
   have hlt:a + (13 + r.length) < X.length:=by omega
   rw [if_pos hlt] at hvv
   rw [heq,List.getD_eq_getElem?_getD,List.getElem?_append_right (by omega),List.getElem?_append_right (by omega),hta,hcl,hvv] at hm
   have e:a + 13 + r.length - a - (13 + r.length)=0:=by omega
   rw [e] at hm
   simp at hm
 have hIs2:IsRecs Y 0 0 (L ++ [(r,a + 13 + r.length)]):=by
  refine isRecs_app (m:=a) htake.symm hlen.symm L _ 0 0 hIs (by omega) (fun x hx=>by have:=ends_le L 0 0 hIs x hx;omega) ?_
  rw [← ha,Nat.zero_add]
  exact ⟨hnew,hnone⟩
 show jrecs Y []=_
 unfold jrecs
 rw [if_pos (valid_nil (X:=Y) (by omega)),sync_nil Y (by omega)]
 exact isRecs_uniq Y _ _ 0 0 (isRecs_recs Y) hIs2
end Go.Proofs.Ytfpdmlhknddffaa.Dk
end
section
namespace Go.Proofs.Ytfpdmlhknddffaa.Dk
open Go.RowKit Go.Proofs.YtfpdmlhknddffaaW.PrintWords Go.Proofs.YtfpdmlhknddffaaW.PrintLast Go.Proofs.YtfpdmlhknddffaaW.PrintMore
set_option linter.unusedVariables false
set_option linter.unusedSimpArgs false
def SeqP (s:Nat) (S:List Int) (L:List (List Int)):Prop:=S.length=s∧(∀ x ∈ S,0 ≤ x∧x ≤ 255)∧fsts (jrecs S [])=L
theorem endN_snoc (L:List (List Int × Nat)) (x:List Int × Nat) (a:Nat):endN (L ++ [x]) a=x.2:=by simp [endN]
theorem byt_nil {S:List Int} (h:∀ x ∈ S,0 ≤ x∧x ≤ 255):Byt S []:=⟨h,fun y hy=>by cases hy⟩
theorem seqP_zero (s:Nat) (hs:s ≤ 3999):SeqP s (List.replicate s 0) []∧endN (jrecs (List.replicate s 0) []) 0=0:=by
 have hz:jrecs (List.replicate s 0) []=[]:=by
  unfold jrecs
  rw [if_pos (valid_nil (by simp;omega)),sync_nil _ (by simp;omega)]
  have hn:numAt (List.replicate s 0) 0=((0:Nat):Int):=by
   have h0:∀ i,(List.replicate s (0:Int)).getD i 0=0:=fun i=>by
    rw [List.getD_eq_getElem?_getD,List.getElem?_replicate];split <;> rfl
   unfold numAt
   rw [h0,h0]
   rfl
  have hr:recAt (List.replicate s 0) 0 0=none:=recAt_none_of hn (.inl rfl)
  unfold recs recsF
  rw [hr]
 refine ⟨⟨by simp,fun x hx => ?_,by rw [hz];rfl⟩,by rw [hz];rfl⟩
 rw [List.eq_of_mem_replicate hx];omega
theorem seqP_step {s:Nat} {S:List Int} {L:List (List Int)} (h:SeqP s S L) (hs:s ≤ 3999) (r:List Int) (hr:∀ x ∈ r,0 ≤ x∧x ≤ 255) (h0:r.length ≠ 0) (h1:r.length ≤ 1000) :
 if endN (jrecs S []) 0 + 13 + r.length ≤ s then ∃ S',journal_Append.f S [] r=some (S',[],0)∧SeqP s S' (L ++ [r])∧endN (jrecs S' []) 0=endN (jrecs S []) 0 + 13 + r.length else journal_Append.f S [] r=some ([],[],2):=by
 obtain ⟨e0,e1,e2⟩:=h
 have hv:validB S []=true:=valid_nil (by omega)
 have hb:=byt_nil e1
 have ha:=append_eq hb r (by omega) (by omega)
 by_cases hf:endN (jrecs S []) 0 + 13 + r.length ≤ s
 · rw [if_pos hf]
   obtain ⟨p1,p2,p3,p4,p5⟩:=recs_app hv hb r hr h0 (by omega) (by omega)
   have p6:=appL_nil S [] r
   refine ⟨(appL S [] r).1,by rw [ha];exact congrArg some (Prod.ext rfl (Prod.ext p6 p1)),⟨by omega,p3,?_⟩,?_⟩
   · rw [p5];simp only [fsts,List.map_append,List.map_cons,List.map_nil] at e2 ⊢;rw [e2]
   · rw [p5,endN_snoc]
 · rw [if_neg hf,ha]
   unfold appL
   rw [if_pos ⟨hv,h0⟩,if_pos (.inr (by omega))]
end Go.Proofs.Ytfpdmlhknddffaa.Dk
end
section
namespace Go.Proofs.Ytfpdmlhknddffaa.Dk
open Go.RowKit Go.Proofs.YtfpdmlhknddffaaW.PrintWords Go.Proofs.YtfpdmlhknddffaaW.PrintLast Go.Proofs.YtfpdmlhknddffaaW.PrintMore
attribute [local go_sem] field25 field25b
set_option linter.unusedVariables false
set_option linter.unusedSimpArgs false
theorem new_eq (s:Nat) (h:s ≤ 3999):disk_New.f (s:Int)=some (List.replicate s 0,[],0):=by
 unfold disk_New.f
 rw [if_neg (by omega),if_neg (by omega),if_pos (by omega),if_pos (by omega)]
 rfl
theorem tmod_4000 (a:Nat) (h:a ≤ 65535):(a:Int).tmod 4000=((a % 4000:Nat):Int):=by rw [Int.tmod_eq_emod_of_nonneg (by omega)];rfl
abbrev SeqE:=Option Addr × Nat × List Int
def seqRow (x:SeqE):List Value:=[.slice x.1 x.2.2.length x.2.1]
def seqFit (w:World) (x:SeqE):Prop:=x.2.2.length ≤ x.2.1∧Kd.C (Kd.int .u8) w x.1 x.2.2.length x.2.2
theorem seq_read {w w1:World} {A:Option Addr} {els:List SeqE} (h:Kd.C (Kd.raw 1) w1 A els.length (els.map seqRow)) (hb:Below w.heap.size w w1) (hf:∀ x ∈ els,seqFit w x):Kd.C (Kd.slice 5 (Kd.int .u8)) w1 A (els.map (·.2.2)).length (els.map (·.2.2)):=by
 rw [List.length_map]
 refine ⟨by simp,h.2.1,fun hp => ?_⟩
 obtain ⟨ad,e,hc⟩:=h.2.2 hp
 refine ⟨ad,e,fun j p hj => ?_⟩
 rw [List.getElem?_map] at hj
 obtain ⟨x,hx,rfl⟩:=Option.map_eq_some_iff.1 hj
 obtain ⟨cs,h1,h2,h3⟩:=hc j (seqRow x) (by rw [List.getElem?_map,hx];rfl)
 obtain ⟨k1,k2⟩:=hf x (List.mem_of_getElem? hx)
 exact ⟨cs,h1,⟨x.1,x.2.1,h2.1,k1,Kd.C_below k2 hb⟩,h3⟩
theorem R_past {α:Type} {d:Kd α} {e:Nat} {w w1:World} {base b2:Nat} {ok ok2:Nat→Prop} {v u:Value} {xs:List α} {ys:List (List Value)} (h:d.R e w base ok v xs) (hu:(Kd.raw 1).R 22 w b2 ok2 u ys) (hg:w.grownBy w1 u.ownBlock) (ht:∀ q,q ∈ e :: d.E→q ≠ 22):d.R e w1 base ok v xs:=by
 refine Kd.R_mono (Kd.R_grown (Kd.R_bound h) hg (fun k hk he => ?_)) (fun _ hk=>hk.1)
 obtain ⟨_,_,_,q,hq,cells,hc⟩:=hk
 obtain ⟨inner,ho⟩:=Kd.R_own hu
 obtain ⟨cells2,hc2⟩:=own_typed ho k he.symm
 rw [hc] at hc2
 injection hc2 with hc2
 injection hc2 with _ hc2
 exact ht q hq hc2
theorem S_past {α:Type} {d:Kd α} {e:Nat} {w w1:World} {base b2:Nat} {ok ok2:Nat→Prop} {v u:Value} {xs:List α} {ys:List (List Value)} (h:Kd.S d e w base ok v xs) (hu:(Kd.raw 1).R 22 w b2 ok2 u ys) (hg:w.grownBy w1 u.ownBlock) (ht:∀ q,q ∈ e :: d.E→q ≠ 22):Kd.S d e w1 base ok v xs:=by
 obtain ⟨f,h⟩:=h
 exact ⟨f,R_past h hu hg ht⟩
theorem el_at {w:World} {A:Option Addr} {n:Nat} {R:List (List Int)} (h:Kd.C (Kd.slice 5 (Kd.int .u8)) w A n R) (i:Nat) (h0:i < n) (h1:i < R.length):∃ ad A0 c0,A=some ad∧w.cell? (ad.add i)=some (.slice A0 (R[i]).length c0)∧(R[i]).length ≤ c0∧(Kd.int .u8).C w A0 (R[i]).length (R[i]):=by
 obtain ⟨ad,c,e,_,hK,hc0⟩:=Kd.C_get h ([]:List Int) (i:Int) (by omega) (by omega)
 have he:R.getD ((i:Int)).toNat []=R[i]:=by simp [List.getD,h1]
 rw [he] at hK
 have hc:∀ j u,c[j]? = some u→w.cell? (ad.add (((i:Int)).toNat * 1 + j))=some u:=hc0
 obtain ⟨A0,c0,rfl,l0,g0⟩:=hK
 exact ⟨ad,A0,c0,e,by have hq:=hc 0 _ rfl;rwa [Nat.mul_one,Nat.add_zero,Int.toNat_natCast] at hq,l0,g0⟩
theorem sameAll_n {A0 A1:Option Addr} {c0 c1 n0 n1:Nat} (l:List (List Int)) (w:World) (e0:l.length=n0) (e1:l.length=n1) (hl:l.length ≤ 65536) (hx:∀ x ∈ l,x.length ≤ 65536)
 (h0:Kd.C (Kd.slice 5 (Kd.int .u8)) w A0 n0 l) (k0:n0 ≤ c0) (h1:Kd.C (Kd.slice 5 (Kd.int .u8)) w A1 n1 l) (k1:n1 ≤ c1) :
 Calls Try.prog 39 #[.slice A0 n0 c0,.slice A1 n1 c1] w fun e w'=>e=.returned (.bool true)∧Below w.heap.size w w':=by
 subst e0;subst e1
 obtain ⟨k,hk⟩:=sameAll_ev l l (by omega) (fun x h=>by have:=hx x h;omega)
 rw [decide_eq_true rfl] at hk
 refine (wageofficeref43_SameAll.calls k A0 c0 l A1 c1 l true w h0 k0 h1 k1 (hk k (Nat.le_refl _))).mono ?_
 rintro e w' ⟨rfl,hb⟩
 exact ⟨rfl,hb.below⟩
theorem append_rn {A0 A1 A2:Option Addr} {c0 c1 c2 n0 n1 n2:Nat} (l0:List Int) (l1:List S45) (l2 r1:List Int) (r2:List S45) (r3:Int) (n m:Nat) (w:World) (e0:l0.length=n0) (e1:l1.length=n1) (e2:l2.length=n2) (e3:r1.length=n) (e4:r2.length=m)
 (h0:Kd.C (Kd.int .u8) w A0 n0 l0) (k0:n0 ≤ c0) (h1:Kd.C k45 w A1 n1 l1) (k1:n1 ≤ c1) (h2:Kd.C (Kd.int .u8) w A2 n2 l2) (k2:n2 ≤ c2) (h:journal_Append.f l0 l1 l2=some (r1,r2,r3)) :
 Calls Try.prog 34 #[.agg #[.slice A0 n0 c0,.slice A1 n1 c1],.slice A2 n2 c2] w fun e w'=>∃ A c B d,e=.returned (.tuple #[.agg #[.slice A n c,.slice B m d],.int .i64 r3])∧Kd.R (Kd.int .u8) 5 w' w.heap.size (fun _=>True) (.slice A n c) r1∧Kd.S k45 45 w' w.heap.size (fun _=>True) (.slice B m d) r2∧Below w.heap.size w w':=by
 subst e0;subst e1;subst e2;subst e3;subst e4
 refine (journal_Append.calls A0 c0 l0 A1 c1 l1 A2 c2 l2 r1 r2 r3 w h0 k0 h1 k1 h2 k2 h).mono ?_
 rintro e w' ⟨v0,v1,rfl,hr,hs,hb⟩
 obtain ⟨A,c,rfl⟩:=Kd.R_slice hr
 obtain ⟨B,d,rfl⟩:=Kd.S_slice hs
 exact ⟨A,c,B,d,rfl,hr,Kd.S_mono hs (fun _ _=>trivial),hb⟩
theorem new_rn (a:Int) (r1:List Int) (r2:List S45) (n m:Nat) (w:World) (e3:r1.length=n) (e4:r2.length=m) (h:disk_New.f a=some (r1,r2,0)) :
 Calls Try.prog 17 #[.int .i64 a] w fun e w'=>∃ A c B d,e=.returned (.tuple #[.agg #[.slice A n c,.slice B m d],.int .i64 0])∧Kd.R (Kd.int .u8) 5 w' w.heap.size (fun _=>True) (.slice A n c) r1∧Kd.S k45 45 w' w.heap.size (fun _=>True) (.slice B m d) r2∧Below w.heap.size w w':=by
 subst e3;subst e4
 refine (disk_New.calls a r1 r2 0 w h).mono ?_
 rintro e w' ⟨v0,v1,rfl,hr,hs,hb⟩
 obtain ⟨A,c,rfl⟩:=Kd.R_slice hr
 obtain ⟨B,d,rfl⟩:=Kd.S_slice hs
 exact ⟨A,c,B,d,rfl,hr,Kd.S_mono hs (fun _ _=>trivial),hb⟩
set_option maxHeartbeats 4000000 in
set_option maxRecDepth 100000 in
theorem seq_calls (a:Nat) (A:Option Addr) (n c:Nat) (R:List (List Int)) (w:World) (hR:Kd.C (Kd.slice 5 (Kd.int .u8)) w A n R) (hn:R.length=n) (hc:n ≤ c) (hb:∀ r ∈ R,∀ x ∈ r,0 ≤ x∧x ≤ 255) (hl:∀ r ∈ R,r.length ≤ 140737488355328) (ha:a ≤ 65535) :
 Calls Try.prog 13 #[.int .u16 (a:Int),.slice A n c] w fun e w'=>e=.returned (.bool true)∧Below w.heap.size w w':=by
 have hu25:=Try.underlying25
 have hu22:=Try.underlying22
 have hu49:=Try.underlying49
 have e0:wrap64 (a:Int)=(a:Int):=wrap_ok _ (by omega) (by omega)
 have e1:=tmod_4000 a ha
 obtain ⟨s,hs⟩:∃ s,s=a % 4000:=⟨_,rfl⟩
 rw [← hs] at e1
 have hs4:s ≤ 3999:=by omega
 have Hs4:=Lib.hid hs4
 have HR:=Lib.hid hR
 have Hn:=Lib.hid hn
 have Hc:=Lib.hid hc
 have Hb:=Lib.hid hb
 have Hl:=Lib.hid hl
 clear hs hs4 hR hn hc hb hl ha
 by_cases h40:40 < n
 · have y0:decide ((n:Int) > 40)=true:=decide_eq_true (by omega)
   have y1:((n:Int) > 40)=True:=eq_true (by omega)
   have y2:(40 < (n:Int))=True:=eq_true (by omega)
   have y3:(40 < n)=True:=eq_true h40
   go_enter Try.func13,Try.ntmps13
   go_wp2_with (first|(go_at_call 32;refine (head43_calls w).mono ?_;rintro e w1 ⟨rfl,hB⟩;have HB1:=Lib.hid hB;clear hB)|(go_at_call 17;refine (new_n (s:Int) (List.replicate s 0) [] s 0 w1 (by simp) rfl (new_eq s Hs4.out)).mono ?_;rintro e w2 ⟨A2,c2,B2,d2,rfl,ha,hka,hbb,hkb,hB⟩;have HB2:=Lib.hid (below_then HB1.out HB1.out.size hB);clear ha hka hbb hkb hB)|((with_reducible refine gate_dst (N:=6) rfl ?_);(refine box_event ?hg (N:=6) ?hd (cs:=#[.slice none 0 0,.slice none 0 0]) (t:=25) ?hr ?_);(case hd=>rfl);(case hg=>rfl);(case hr=>first|(go_simp;done)|(go_simp;rfl));intro g6 hg6 w3 hb3 hB3;have kf0:=blk_frozen hb3 0;have kf1:=blk_frozen hb3 1;have kf2:=(blk_cell hb3 0).trans rfl;have kf3:=(blk_cell hb3 1).trans rfl;have Hg6:Hid (w.heap.size ≤ g6):=(Lib.hid (by rw [hg6];exact HB2.out.size));have HB3:=Lib.hid (below_then HB2.out HB2.out.size hB3);clear hb3 hB3 hg6) )
   go_ret
   exact ⟨rfl,(HB3.out.setCell (p:=⟨g6,0,none⟩) Hg6.out _).setCell (p:=⟨g6,1,none⟩) Hg6.out _⟩
 · have y0:decide ((n:Int) > 40)=false:=decide_eq_false (by omega)
   have y1:((n:Int) > 40)=False:=eq_false (by omega)
   have y2:(40 < (n:Int))=False:=eq_false (by omega)
   have y3:(40 < n)=False:=eq_false h40
   go_enter Try.func13,Try.ntmps13
   go_wp2_with (first|(go_at_call 32;refine (head43_calls w).mono ?_;rintro e w1 ⟨rfl,hB⟩;have HB1:=Lib.hid hB;clear hB)|(go_at_call 17;refine (new_rn (s:Int) (List.replicate s 0) [] s 0 w1 (by simp) rfl (new_eq s Hs4.out)).mono ?_;rintro e w2 ⟨A2,c2,B2,d2,rfl,hr,hs,hB⟩;have HB2:=Lib.hid (below_then HB1.out HB1.out.size hB);have HR2:=Lib.hid hr;have HS2:=Lib.hid hs;clear hr hs hB)|((with_reducible refine gate_dst (N:=6) rfl ?_);(refine box_event ?hg (N:=6) ?hd (cs:=#[.slice none 0 0,.slice none 0 0]) (t:=25) ?hr ?_);(case hd=>rfl);(case hg=>rfl);(case hr=>first|(go_simp;done)|(go_simp;rfl));intro g6 hg6 w3 hb3 hB3;have kf0:=blk_frozen hb3 0;have kf1:=blk_frozen hb3 1;have kf2:=(blk_cell hb3 0).trans rfl;have kf3:=(blk_cell hb3 1).trans rfl;have Hg6:Hid (w.heap.size ≤ g6):=(Lib.hid (by rw [hg6];exact HB2.out.size));have HB3:=Lib.hid (below_then HB2.out HB2.out.size hB3);have HR3:=Lib.hid (Kd.R_below HR2.out hB3);have HS3:=Lib.hid (Kd.S_below HS2.out hB3);have Hb3:=Lib.hid hb3;clear hb3 hB3 hg6) )
   obtain ⟨w4,hw4⟩:∃ W,W=((w3.setCell ⟨g6,0,none⟩ (.slice A2 s c2)).setCell ⟨g6,1,none⟩ (.slice B2 0 d2)):=⟨_,rfl⟩
   rw [← hw4]
   have Hb4:Hid (w4.heap[g6]? = some (.cells #[.slice A2 s c2,.slice B2 0 d2] 25 (0,0))):=Lib.hid (by rw [hw4];exact two_cells Hb3.out _ _)
   have HR4:Hid (Kd.R (Kd.int .u8) 5 w4 w.heap.size (fun _=>True) (.slice A2 s c2) (List.replicate s 0)):=Lib.hid (by rw [hw4];exact Kd.R_lower (Kd.R_set (Kd.R_set HR3.out Hb3.out (by decide) 0 _) (blk_put Hb3.out 0 _ rfl) (by decide) 1 _) HB1.out.size)
   have HS4:Hid (Kd.S k45 45 w4 w.heap.size (fun _=>True) (.slice B2 0 d2) []):=Lib.hid (by rw [hw4];exact Kd.S_lower (Kd.S_set (Kd.S_set HS3.out Hb3.out (by decide) 0 _) (blk_put Hb3.out 0 _ rfl) (by decide) 1 _) HB1.out.size)
   have HB4:Hid (Below w.heap.size w w4):=Lib.hid (by rw [hw4];exact (HB3.out.setCell (p:=⟨g6,0,none⟩) Hg6.out _).setCell (p:=⟨g6,1,none⟩) Hg6.out _)
   clear hw4 kf0 kf1 kf2 kf3 y0 y1 y2 y3 e0 e1
   go_loopg [8,9,39] n (fun k v8 v9 v39 wr=>∃ (i:Nat) (els:List SeqE) (S:List Int) (A6:Option Addr) (c6:Nat) (B6:Option Addr) (d6:Nat) (A8:Option Addr) (c8:Nat),i ≤ n∧k=n - i∧v39=.int .i64 i∧v9=.int .i64 (endN (jrecs S []) 0:Nat)∧v8=.slice A8 els.length c8∧els.length ≤ i∧Hid (wr.heap[g6]? = some (.cells #[.slice A6 s c6,.slice B6 0 d6] 25 (0,0)))∧Hid (Kd.R (Kd.int .u8) 5 wr w.heap.size (fun _=>True) (.slice A6 s c6) S)∧Hid (Kd.S k45 45 wr w.heap.size (fun _=>True) (.slice B6 0 d6) [])∧Hid ((Kd.raw 1).R 22 wr w.heap.size (fun _=>True) (.slice A8 els.length c8) (els.map seqRow))∧Hid (∀ x ∈ els,seqFit w x)∧Hid (SeqP s S (els.map (·.2.2)))∧Hid (Below w.heap.size w wr))
   case atStart=>exact ⟨0,[],List.replicate s 0,A2,c2,B2,d2,none,0,by omega,by omega,rfl,by rw [(seqP_zero s Hs4.out).2];rfl,rfl,by simp,Hb4,HR4,HS4,Lib.hid (Kd.R_nil _ _ _ _ _),Lib.hid (fun x hx=>by cases hx),Lib.hid (seqP_zero s Hs4.out).1,HB4⟩
   case round =>
    obtain ⟨i,els,S,A6,c6,B6,d6,A8,c8,hi,rfl,rfl,rfl,rfl,hel,Hb6,HR6,HS6,HV,HF,HP,HBr⟩:=hrel
    by_cases hlt:i < n
    · have hiR:i < R.length:=by have:=Hn.out;omega
      obtain ⟨ad,A0,c0,rfl,q0,q1,q2⟩:=el_at HR.out i hlt hiR
      obtain ⟨r,hr⟩:∃ r,r=R[i]:=⟨_,rfl⟩
      rw [← hr] at q0 q1 q2
      have hrm:r ∈ R:=by rw [hr];exact List.getElem_mem _
      have Hrb:=Lib.hid (Hb.out r hrm)
      have hrl:=Hl.out r hrm
      have k0:=cell_below HBr.out q0
      obtain ⟨m,hm⟩:∃ m,m=r.length:=⟨_,rfl⟩
      rw [← hm] at k0 hrl q1 q2
      have Q1:=Lib.hid q1
      have Q2:=Lib.hid (Kd.C_below q2 HBr.out)
      have Hm:=Lib.hid hm
      have HQ:Hid (seqFit w (A0,c0,r)):=Lib.hid ⟨by rw [← hm];exact q1,by show Kd.C (Kd.int .u8) w A0 r.length r;rw [← hm];exact q2⟩
      clear hm hr hrm q0 q1 q2
      have y0:decide ((i:Int) < (n:Int))=true:=decide_eq_true (by omega)
      by_cases hm0:m=0
      · subst hm0
        go_wp2
        go_roundg (n - (i + 1))
        case measure=>omega
        case rel=>exact ⟨i + 1,els,S,A6,c6,B6,d6,A8,c8,by omega,rfl,by go_num,rfl,rfl,by omega,Hb6,HR6,HS6,HV,HF,HP,HBr⟩
      · by_cases hm1:1000 < m
        · have z1:decide ((m:Int) > 1000)=true:=decide_eq_true (by omega)
          have z2:((m:Int) > 1000)=True:=eq_true (by omega)
          have z3:(1000 < (m:Int))=True:=eq_true (by omega)
          have z4:(1000 < m)=True:=eq_true hm1
          have z5:((m:Int)=0)=False:=eq_false (by omega)
          have z6:(m=0)=False:=eq_false hm0
          go_wp2
          go_roundg (n - (i + 1))
          case measure=>omega
          case rel=>exact ⟨i + 1,els,S,A6,c6,B6,d6,A8,c8,by omega,rfl,by go_num,rfl,rfl,by omega,Hb6,HR6,HS6,HV,HF,HP,HBr⟩
        · have z1:decide ((m:Int) > 1000)=false:=decide_eq_false (by omega)
          have z2:((m:Int) > 1000)=False:=eq_false (by omega)
          have z3:(1000 < (m:Int))=False:=eq_false (by omega)
          have z4:(1000 < m)=False:=eq_false hm1
          have z5:((m:Int)=0)=False:=eq_false (by omega)
          have z6:(m=0)=False:=eq_false hm0
          have hst:=seqP_step HP.out Hs4.out r Hrb.out (by rw [← Hm.out];exact hm0) (by rw [← Hm.out];omega)
          (have hr6:=Kd.R_reads' HR6.out);(have hr6c:=hr6.2.2);(rw [← hr6.1] at hr6c);(have Hr6k:=Lib.hid hr6.2.1);(have Hr6c:=Lib.hid hr6c);(have Hs6:=Lib.hid (Kd.R_reads' (Kd.S_R HS6.out)).2);(have hrec:=records_eq (byt_nil HP.out.2.1));(rw [HP.out.2.2] at hrec);(have Hrec:=Lib.hid hrec);(have hv8:=seq_read (by have hq:=(Kd.R_reads' HV.out).2.2;rwa [List.length_map] at hq) HBr.out HF.out);(rw [List.length_map] at hv8);(have Hv8:=Lib.hid hv8);(have Hv8k:=Lib.hid (Kd.R_reads' HV.out).2.1);(have hx:=fun x hx=>(jrecs_facts (l0:=S) (l1:=[])).2.2.2 x hx);(rw [HP.out.2.2] at hx);(have Hx:=Lib.hid hx);(clear hx hv8 hrec hr6c hr6);(have Hel:=Lib.hid hel)
          rw [← Hm.out] at hst
          by_cases hf:endN (jrecs S []) 0 + 13 + m ≤ s
          · rw [if_pos hf] at hst
            obtain ⟨S',ha,hP,he'⟩:=hst
            have Ha:=Lib.hid ha
            have HP':=Lib.hid hP
            have He':=Lib.hid he'
            obtain ⟨E,hE⟩:∃ E,E=endN (jrecs S []) 0:=⟨_,rfl⟩
            have HE:=Lib.hid hE
            rw [← hE] at hf ⊢
            have hE6:E ≤ 65536:=by rw [hE];exact (jrecs_facts (l0:=S) (l1:=[])).2.2.1
            have e1:wrap64 ((E:Int) + 13)=(E:Int) + 13:=wrap_ok _ (by omega) (by omega)
            have e2:wrap64 ((E:Int) + 13 + (m:Int))=(E:Int) + 13 + (m:Int):=by clear e1;exact wrap_ok _ (by omega) (by omega)
            have e3:=(i64_w _).trans e1
            have e4:=(i64_w _).trans e2
            have e5:((E:Int) + 13 + (m:Int) ≤ (s:Int))=True:=eq_true (by exact_mod_cast hf)
            have e6:decide ((E:Int) + 13 + (m:Int) ≤ (s:Int))=true:=decide_eq_true (by exact_mod_cast hf)
            have k1:=(blk_cell Hb6.out 0).trans rfl
            have k2:=(blk_cell Hb6.out 1).trans rfl
            clear hE ha hP he'
            go_wp2_with (first|(go_at_call 34;refine (append_rn (n0:=s) (n1:=0) (n2:=m) S [] r S' [] 0 s 0 wr HP.out.1 rfl Hm.out.symm HP'.out.1 rfl Hr6c.out Hr6k.out Hs6.out.2 Hs6.out.1 Q2.out Q1.out Ha.out).mono ?_;rintro e w6 ⟨A10,c10,B10,d10,rfl,hr,hs,hB⟩;have HB6:=Lib.hid (below_then HBr.out HBr.out.size hB);have Hw6:=Lib.hid hB;have Hb6':=Lib.hid (blk_below Hb6.out hB);have HR10:=Lib.hid hr;have HS10:=Lib.hid hs;clear hr hs hB)|((with_reducible refine gate_dst (N:=12) rfl ?_);(refine box_event ?hg (N:=12) ?hd (cs:=#[.slice none 0 0,.slice none 0 0]) (t:=25) ?hr ?_);(case hd=>rfl);(case hg=>rfl);(case hr=>first|(go_simp;done)|(go_simp;rfl));intro g12 hg12 w7 hb7 hB7;have kf0:=blk_frozen hb7 0;have kf1:=blk_frozen hb7 1;have kf2:=(blk_cell hb7 0).trans rfl;have kf3:=(blk_cell hb7 1).trans rfl;have Hb7':=Lib.hid (blk_below Hb6'.out hB7);have kg0:=(blk_cell Hb7'.out 0).trans rfl;have kg1:=(blk_cell Hb7'.out 1).trans rfl;have hne:g6 ≠ g12:=(by rw [hg12];exact Nat.ne_of_lt (blk_lt Hb6'.out));have Hne:=Lib.hid hne;have hge:wr.heap.size ≤ g12:=(by rw [hg12];exact Hw6.out.size);have Hge:=Lib.hid hge;have HR11:=Lib.hid (Kd.R_below HR10.out hB7);have HS11:=Lib.hid (Kd.S_below HS10.out hB7);have Hb12:=Lib.hid hb7;have Hw7:=Lib.hid (((below_then Hw6.out Hw6.out.size hB7).setCell (p:=⟨g12,0,none⟩) hge (.slice A10 s c10)).setCell (p:=⟨g12,1,none⟩) hge (.slice B10 0 d10));have HW7:=Lib.hid (below_then HBr.out HBr.out.size Hw7.out);clear hb7 hB7 hg12 hge) )
            obtain ⟨W7,hW7⟩:∃ W,W=((w7.setCell ⟨g12,0,none⟩ (.slice A10 s c10)).setCell ⟨g12,1,none⟩ (.slice B10 0 d10)):=⟨_,rfl⟩
            rw [← hW7]
            have HbW:Hid (W7.heap[g12]? = some (.cells #[.slice A10 s c10,.slice B10 0 d10] 25 (0,0))):=Lib.hid (by rw [hW7];exact two_cells Hb12.out _ _)
            have Hb6W:Hid (W7.heap[g6]? = some (.cells #[.slice A6 s c6,.slice B6 0 d6] 25 (0,0))):=Lib.hid (by rw [hW7];exact blk_far (blk_far Hb7'.out Hne.out _) Hne.out _)
            have HRW:Hid (Kd.R (Kd.int .u8) 5 W7 wr.heap.size (fun _=>True) (.slice A10 s c10) S'):=Lib.hid (by rw [hW7];exact Kd.R_set (Kd.R_set HR11.out Hb12.out (by decide) 0 _) (blk_put Hb12.out 0 _ rfl) (by decide) 1 _)
            have HSW:Hid (Kd.S k45 45 W7 wr.heap.size (fun _=>True) (.slice B10 0 d10) []):=Lib.hid (by rw [hW7];exact Kd.S_set (Kd.S_set HS11.out Hb12.out (by decide) 0 _) (blk_put Hb12.out 0 _ rfl) (by decide) 1 _)
            rw [← hW7] at Hw7 HW7
            have HVW:=Lib.hid (Kd.R_below HV.out Hw7.out)
            clear hW7 kf0 kf1 kf2 kf3 kg0 kg1 hne k0 k1 k2
            have hlen:(els.length + 1) * 24 ≤ 140737488355328:=by clear e1 e2 e3 e4 e5 e6;have:=Hel.out;omega
            have Hlen:=Lib.hid hlen
            clear hlen
            have Hd:Hid (Below W7.heap.size W7 W7.drew):=Lib.hid (below_drew (Below.refl _ _))
            have HVd:=Lib.hid (Kd.R_below HVW.out Hd.out)
            have HRd:=Lib.hid (Kd.R_below HRW.out Hd.out)
            have HSd:=Lib.hid (Kd.S_below HSW.out Hd.out)
            have Hbd:=Lib.hid (blk_below HbW.out Hd.out)
            have Hb6d:=Lib.hid (blk_below Hb6W.out Hd.out)
            have HWd:=Lib.hid (below_then HW7.out HW7.out.size Hd.out)
            have Hels:Hid (els.map seqRow ++ [[Value.slice A0 m c0]]=(els ++ [((A0,c0,r):SeqE)]).map seqRow):=Lib.hid (by rw [List.map_append,List.map_cons,List.map_nil,Hm.out];rfl)
            have Hell:Hid ((els.map seqRow ++ [[Value.slice A0 m c0]]).length=els.length + 1):=Lib.hid (by simp)
            have kw0:=(blk_cell HbW.out 0).trans rfl
            have kw1:=(blk_cell HbW.out 1).trans rfl
            have kv0:=(blk_cell Hb6W.out 0).trans rfl
            have kv1:=(blk_cell Hb6W.out 1).trans rfl
            refine start_ (n:=13) (S:=fun w'=>w'.cell? ⟨g12,0,none⟩=some (.slice A10 s c10)∧w'.cell? ⟨g12,1,none⟩=some (.slice B10 0 d10)) (ds:=[10]) #[false,false,false,false,false,false,false,false,false,false,false,false,false] (by kernel_rfl) rfl rfl ⟨kw0,kw1⟩ ?_
            intro hHeld
            refine pure_ (i:=1) (N:=some 73) (v:=?_) (a':=?_) #[false,true,false,false,false,false,false,false,false,false,false,false,false] rfl rfl (by kernel_rfl) (fun _ _ _ h=>h) (Or.inl ⟨by rfl,?_⟩) ?_ ?_
            rotate_left
            · intro w'
              go_simp
              try (with_reducible rfl)
            rotate_left
            · simp only [Act.put,List.setIfInBounds_toArray,List.set_cons_zero,List.set_cons_succ]
              rfl
            refine pure_ (i:=2) (N:=some 74) (v:=?_) (a':=?_) #[false,true,true,false,false,false,false,false,false,false,false,false,false] rfl rfl (by kernel_rfl) (fun _ _ _ h=>h) (Or.inl ⟨by rfl,?_⟩) ?_ ?_
            rotate_left
            · intro w'
              go_simp
              try (with_reducible rfl)
            rotate_left
            · simp only [Act.put,List.setIfInBounds_toArray,List.set_cons_zero,List.set_cons_succ]
              rfl
            refine pure_ (i:=5) (N:=some 77) (v:=?_) (a':=?_) #[false,true,true,false,false,true,false,false,false,false,false,false,false] rfl rfl (by kernel_rfl) (fun _ _ _ h=>h) (Or.inl ⟨by rfl,?_⟩) ?_ ?_
            rotate_left
            · intro w'
              go_simp
              try (with_reducible rfl)
            rotate_left
            · simp only [Act.put,List.setIfInBounds_toArray,List.set_cons_zero,List.set_cons_succ]
              rfl
            refine pure_ (i:=6) (N:=some 78) (v:=?_) (a':=?_) #[false,true,true,false,false,true,true,false,false,false,false,false,false] rfl rfl (by kernel_rfl) (fun _ _ _ h=>h) (Or.inl ⟨by rfl,?_⟩) ?_ ?_
            rotate_left
            · intro w'
              go_simp
              try (with_reducible rfl)
            rotate_left
            · simp only [Act.put,List.setIfInBounds_toArray,List.set_cons_zero,List.set_cons_succ]
              rfl
            refine pure_ (i:=7) (N:=some 79) (v:=?_) (a':=?_) #[false,true,true,false,false,true,true,true,false,false,false,false,false] rfl rfl (by kernel_rfl) (fun _ _ _ h=>h) (Or.inl ⟨by rfl,?_⟩) ?_ ?_
            rotate_left
            · intro w'
              go_simp
              try (with_reducible rfl)
            rotate_left
            · simp only [Act.put,List.setIfInBounds_toArray,List.set_cons_zero,List.set_cons_succ]
              rfl
            refine pure_ (i:=8) (N:=some 80) (v:=?_) (a':=?_) #[false,true,true,false,false,true,true,true,true,false,false,false,false] rfl rfl (by kernel_rfl) (fun _ _ _ h=>h) (Or.inl ⟨by rfl,?_⟩) ?_ ?_
            rotate_left
            · intro w'
              go_simp
              try (with_reducible rfl)
            rotate_left
            · simp only [Act.put,List.setIfInBounds_toArray,List.set_cons_zero,List.set_cons_succ]
              rfl
            refine pure_ (i:=9) (N:=some 81) (v:=?_) (a':=?_) #[false,true,true,false,false,true,true,true,true,true,false,false,false] rfl rfl (by kernel_rfl) (fun _ _ _ h=>h) (Or.inl ⟨by rfl,?_⟩) ?_ ?_
            rotate_left
            · intro w'
              go_simp
              try (with_reducible rfl)
            rotate_left
            · simp only [Act.put,List.setIfInBounds_toArray,List.set_cons_zero,List.set_cons_succ]
              rfl
            refine take_ (i:=0) (N:=some 72) (v:=?_) (a':=?_) #[true,true,true,false,false,true,true,true,true,true,false,false,false] rfl rfl (by kernel_rfl) (fun _ _ _ h=>h) (Or.inl ⟨by rfl,?_⟩) hHeld ?_ ?_
            rotate_left
            · rintro w' ⟨s0,s1⟩
              go_simp
              with_reducible rfl
            rotate_left
            · simp only [Act.put,List.setIfInBounds_toArray,List.set_cons_zero,List.set_cons_succ]
              rfl
            refine one_ (i:=3) (N:=some 75) #[true,true,true,true,false,true,true,true,true,true,false,false,false] rfl rfl (by kernel_rfl) (by decide) (fun K hK => ?_)
            refine value_ (w1:=?_) (v:=?_) (by rfl) rfl ?_ ?_
            rotate_left 2
            · go_simp
              constructor
              · rfl
              · rfl
            refine hK.out _ _ ⟨pw_cell_below (below_alloc (Below.refl _ _) _) kw0,pw_cell_below (below_alloc (Below.refl _ _) _) kw1⟩ (fun hHeld => ?_)
            clear hK K
            refine norm_ (a':=?_) ?_ ?_
            rotate_left
            · show Act.put _ (some 75) _=_
              simp only [Act.put,List.setIfInBounds_toArray,List.set_cons_zero,List.set_cons_succ]
              rfl
            refine one_ (i:=4) (N:=some 76) #[true,true,true,true,true,true,true,true,true,true,false,false,false] rfl rfl (by kernel_rfl) (by decide) (fun K hK => ?_)
            refine Kd.R_append_step (Kd.raw 1) (w0:=w) (W:=W7.drew) w.heap.size (by rfl) (.tmp 73) (.tmp 75) 49 22 (.slice none 0 0) 24 (by rfl) hu49 (by kernel_rfl) rfl (by decide) (by decide) (.slice A8 els.length c8) (els.map seqRow) [.slice A0 m c0] [.slice A0 m c0] (fun _=>True) (fun _=>False) (by rfl) (by rfl) ?hp (fun _ h=>h.elim) (fun _ _=>trivial) HVd.out HWd.out HWd.out.size ?hlen ?_
            case hp=>exact ⟨rfl,rfl,fun u hu=>by rw [List.mem_singleton.1 hu];rfl⟩
            case hlen=>rw [List.length_map];exact Hlen.out
            intro v8 w8 hR8 hB8 hg8 hat8
            obtain ⟨A11,c11,rfl⟩:=Kd.R_slice hR8
            have HR8:=Lib.hid hR8
            have HB8:=Lib.hid hB8
            have HRx:=Lib.hid (R_past HRd.out HVd.out hg8 (by decide))
            have HSx:=Lib.hid (S_past HSd.out HVd.out hg8 (by decide))
            have Hbx:=Lib.hid (blk_grown Hbd.out hg8 (Kd.R_ne HVd.out Hbd.out (by decide)))
            have Hb6x:=Lib.hid (blk_grown Hb6d.out hg8 (Kd.R_ne HVd.out Hb6d.out (by decide)))
            clear hR8 hB8 hg8 hat8
            have kz0:=(blk_cell Hb6x.out 0).trans rfl
            have kz1:=(blk_cell Hb6x.out 1).trans rfl
            have kf6:=blk_frozen Hb6x.out 0
            have kf7:=blk_frozen Hb6x.out 1
            refine hK.out _ _ ⟨(blk_cell Hbx.out 0).trans rfl,(blk_cell Hbx.out 1).trans rfl⟩ (fun hHeld => ?_)
            clear hK K
            refine norm_ (a':=?_) ?_ ?_
            rotate_left
            · show Act.put _ (some 76) _=_
              simp only [Act.put,List.setIfInBounds_toArray,List.set_cons_zero,List.set_cons_succ]
              rfl
            refine last_ (i:=10) (N:=none) #[true,true,true,true,true,true,true,true,true,true,true,false,false] rfl rfl (by kernel_rfl) (by decide) (fun K hK => ?_)
            refine skip_ (w1:=?_) (by rfl) rfl ?_ ?_
            rotate_left
            · go_simp
              rfl
            refine hK.out _ _ ?_
            clear hK K
            refine pure_ (i:=11) (N:=some 8) (v:=?_) (a':=?_) #[true,true,true,true,true,true,true,true,true,true,true,true,false] rfl rfl (by kernel_rfl) (fun _ _ _ h=>h) (Or.inl ⟨by rfl,?_⟩) ?_ ?_
            rotate_left
            · intro w'
              go_simp
              try (with_reducible rfl)
            rotate_left
            · simp only [Act.put,List.setIfInBounds_toArray,List.set_cons_zero,List.set_cons_succ]
              rfl
            refine pure_ (i:=12) (N:=some 9) (v:=?_) (a':=?_) #[true,true,true,true,true,true,true,true,true,true,true,true,true] rfl rfl (by kernel_rfl) (fun _ _ _ h=>h) (Or.inl ⟨by rfl,?_⟩) ?_ ?_
            rotate_left
            · intro w'
              go_simp
              try (with_reducible rfl)
            rotate_left
            · simp only [Act.put,List.setIfInBounds_toArray,List.set_cons_zero,List.set_cons_succ]
              rfl
            refine done_ (by kernel_rfl) ?_
            clear kw0 kw1 kv0 kv1 kz0 kz1 kf6 kf7 e1 e2 e3 e4 e5 e6 hf
            go_wp2
            have HR9:Hid (Kd.R (Kd.int .u8) 5 ((w8.setCell ⟨g6,0,none⟩ (.slice A10 s c10)).setCell ⟨g6,1,none⟩ (.slice B10 0 d10)) w.heap.size (fun _=>True) (.slice A10 s c10) S'):=Lib.hid (Kd.R_lower (Kd.R_set (Kd.R_set HRx.out Hb6x.out (by decide) 0 _) (blk_put Hb6x.out 0 _ rfl) (by decide) 1 _) HBr.out.size)
            have HS9:Hid (Kd.S k45 45 ((w8.setCell ⟨g6,0,none⟩ (.slice A10 s c10)).setCell ⟨g6,1,none⟩ (.slice B10 0 d10)) w.heap.size (fun _=>True) (.slice B10 0 d10) []):=Lib.hid (Kd.S_lower (Kd.S_set (Kd.S_set HSx.out Hb6x.out (by decide) 0 _) (blk_put Hb6x.out 0 _ rfl) (by decide) 1 _) HBr.out.size)
            have HV9:Hid ((Kd.raw 1).R 22 ((w8.setCell ⟨g6,0,none⟩ (.slice A10 s c10)).setCell ⟨g6,1,none⟩ (.slice B10 0 d10)) w.heap.size (fun _=>True) (.slice A11 (els ++ [((A0,c0,r):SeqE)]).length c11) ((els ++ [((A0,c0,r):SeqE)]).map seqRow)):=Lib.hid (by have h:=Kd.R_set (Kd.R_set HR8.out Hb6x.out (by decide) 0 (.slice A10 s c10)) (blk_put Hb6x.out 0 _ rfl) (by decide) 1 (.slice B10 0 d10);rw [Hell.out,Hels.out] at h;rw [List.length_append];exact h)
            go_roundg (n - (i + 1))
            case measure=>omega
            case rel =>
             refine ⟨i + 1,els ++ [(A0,c0,r)],S',A10,c10,B10,d10,A11,c11,by omega,rfl,by go_num,?_,by rw [List.length_append];rfl,by rw [List.length_append];have:=Hel.out;simp;omega,Lib.hid (two_cells Hb6x.out _ _),HR9,HS9,HV9,?_,?_,?_⟩
             · rw [He'.out,← HE.out]
               simp
             · exact Lib.hid (fun x hx=>by
                rcases List.mem_append.1 hx with h|h
                · exact HF.out x h
                · rw [List.mem_singleton.1 h];exact HQ.out)
             · exact Lib.hid (by rw [List.map_append];exact HP'.out)
             · exact Lib.hid ((HB8.out.setCell (p:=⟨g6,0,none⟩) Hg6.out _).setCell (p:=⟨g6,1,none⟩) Hg6.out _)
          · rw [if_neg hf] at hst
            have Hst:=Lib.hid hst
            obtain ⟨E,hE⟩:∃ E,E=endN (jrecs S []) 0:=⟨_,rfl⟩
            have HE:=Lib.hid hE
            rw [← hE] at hf ⊢
            have hE6:E ≤ 65536:=by rw [hE];exact (jrecs_facts (l0:=S) (l1:=[])).2.2.1
            have e1:wrap64 ((E:Int) + 13)=(E:Int) + 13:=wrap_ok _ (by omega) (by omega)
            have e2:wrap64 ((E:Int) + 13 + (m:Int))=(E:Int) + 13 + (m:Int):=by clear e1;exact wrap_ok _ (by omega) (by omega)
            have e3:=(i64_w _).trans e1
            have e4:=(i64_w _).trans e2
            have e5:((E:Int) + 13 + (m:Int) ≤ (s:Int))=False:=eq_false (by omega)
            have e6:decide ((E:Int) + 13 + (m:Int) ≤ (s:Int))=false:=decide_eq_false (by omega)
            have k1:=(blk_cell Hb6.out 0).trans rfl
            have k2:=(blk_cell Hb6.out 1).trans rfl
            clear hE hst
            go_wp2_with (first|(go_at_call 34;refine (append_rn (n0:=s) (n1:=0) (n2:=m) S [] r [] [] 2 0 0 wr HP.out.1 rfl Hm.out.symm rfl rfl Hr6c.out Hr6k.out Hs6.out.2 Hs6.out.1 Q2.out Q1.out Hst.out).mono ?_;rintro e w6 ⟨A10,c10,B10,d10,rfl,hr,hs,hB⟩;have HB6:=Lib.hid (below_then HBr.out HBr.out.size hB);have Hw6:=Lib.hid hB;have Hb6':=Lib.hid (blk_below Hb6.out hB);clear hr hs hB)|((with_reducible refine gate_dst (N:=12) rfl ?_);(refine box_event ?hg (N:=12) ?hd (cs:=#[.slice none 0 0,.slice none 0 0]) (t:=25) ?hr ?_);(case hd=>rfl);(case hg=>rfl);(case hr=>first|(go_simp;done)|(go_simp;rfl));intro g12 hg12 w7 hb7 hB7;have kf0:=blk_frozen hb7 0;have kf1:=blk_frozen hb7 1;have kf2:=(blk_cell hb7 0).trans rfl;have kf3:=(blk_cell hb7 1).trans rfl;have Hb7':=Lib.hid (blk_below Hb6'.out hB7);have kg0:=(blk_cell Hb7'.out 0).trans rfl;have kg1:=(blk_cell Hb7'.out 1).trans rfl;have hne:g6 ≠ g12:=(by rw [hg12];exact Nat.ne_of_lt (blk_lt Hb6'.out));have HB7:=Lib.hid (below_then HB6.out HB6.out.size hB7);have Hg12:Hid (w.heap.size ≤ g12):=(Lib.hid (by rw [hg12];exact HB6.out.size));have hge:wr.heap.size ≤ g12:=(by rw [hg12];exact Hw6.out.size);have Hw7:=Lib.hid (((below_then Hw6.out Hw6.out.size hB7).setCell (p:=⟨g12,0,none⟩) hge (.slice A10 0 c10)).setCell (p:=⟨g12,1,none⟩) hge (.slice B10 0 d10));have HW7:=Lib.hid (below_then HBr.out HBr.out.size Hw7.out);obtain ⟨W7,hW7⟩:∃ W,W=((w7.setCell ⟨g12,0,none⟩ (.slice A10 0 c10)).setCell ⟨g12,1,none⟩ (.slice B10 0 d10)):=⟨_,rfl⟩;rw [← hW7] at Hw7 HW7;have HWe:=Lib.hid hW7;clear hb7 hB7 hg12 hge hW7)|(rw [← HWe.out];go_at_call 36;refine (records_n S [] (els.map (·.2.2)) (E:Int) els.length W7 HP.out.1 rfl (by simp) (Kd.C_below Hr6c.out Hw7.out) Hr6k.out (Kd.C_below Hs6.out.2 Hw7.out) Hs6.out.1 (by rw [HE.out];exact Hrec.out)).mono ?_;rintro e w8 ⟨A9,c9,rfl,h9,h9k,h9b⟩;have H9:=Lib.hid h9;have H9k:=Lib.hid h9k;have Hv9:=Lib.hid (Kd.C_below (Kd.C_below Hv8.out Hw7.out) h9b);have H9b:=Lib.hid (below_then HW7.out HW7.out.size h9b);clear h9 h9k h9b)|(go_at_call 39;refine (sameAll_n (els.map (·.2.2)) w8 (by simp) (by simp) (by have:=Hel.out;simp;omega) (fun x hx_=>by have:=Hx.out x hx_;omega) H9.out H9k.out Hv9.out Hv8k.out).mono ?_;rintro e w9 ⟨rfl,h39⟩;have H39:=Lib.hid h39;clear h39) )
            go_ret
            exact ⟨rfl,below_then H9b.out H9b.out.size H39.out⟩
    · obtain rfl:i=n:=by omega
      (have hr6:=Kd.R_reads' HR6.out);(have hr6c:=hr6.2.2);(rw [← hr6.1] at hr6c);(have Hr6k:=Lib.hid hr6.2.1);(have Hr6c:=Lib.hid hr6c);(have Hs6:=Lib.hid (Kd.R_reads' (Kd.S_R HS6.out)).2);(have hrec:=records_eq (byt_nil HP.out.2.1));(rw [HP.out.2.2] at hrec);(have Hrec:=Lib.hid hrec);(have hv8:=seq_read (by have hq:=(Kd.R_reads' HV.out).2.2;rwa [List.length_map] at hq) HBr.out HF.out);(rw [List.length_map] at hv8);(have Hv8:=Lib.hid hv8);(have Hv8k:=Lib.hid (Kd.R_reads' HV.out).2.1);(have hx:=fun x hx=>(jrecs_facts (l0:=S) (l1:=[])).2.2.2 x hx);(rw [HP.out.2.2] at hx);(have Hx:=Lib.hid hx);(clear hx hv8 hrec hr6c hr6);(have Hel:=Lib.hid hel)
      (obtain ⟨E,hE⟩:∃ E,E=endN (jrecs S []) 0:=⟨_,rfl⟩);(have HE:=Lib.hid hE);(rw [← hE]);(clear hE hel);(have k1:=(blk_cell Hb6.out 0).trans rfl);(have k2:=(blk_cell Hb6.out 1).trans rfl);(go_wp2_with (first|(go_at_call 36;refine (records_n S [] (els.map (·.2.2)) (E:Int) els.length wr HP.out.1 rfl (by simp) Hr6c.out Hr6k.out Hs6.out.2 Hs6.out.1 (by rw [HE.out];exact Hrec.out)).mono ?_;rintro e w8 ⟨A9,c9,rfl,h9,h9k,h9b⟩;have H9:=Lib.hid h9;have H9k:=Lib.hid h9k;have H9b:=Lib.hid h9b;clear h9 h9k h9b)|(go_at_call 39;refine (sameAll_n (els.map (·.2.2)) w8 (by simp) (by simp) (by have:=Hel.out;simp;omega) (fun x hx_=>by have:=Hx.out x hx_;omega) H9.out H9k.out (Kd.C_below Hv8.out H9b.out) Hv8k.out).mono ?_;rintro e w9 ⟨rfl,h39⟩;have H39:=Lib.hid h39;clear h39)));go_ret;(have hB9:=below_then HBr.out HBr.out.size H9b.out);exact ⟨rfl,below_then hB9 hB9.size H39.out⟩
end Go.Proofs.Ytfpdmlhknddffaa.Dk
end
section
namespace Go.Proofs.Ytfpdmlhknddffaa.Dk
open Go.RowKit Go.Proofs.YtfpdmlhknddffaaW.PrintWords Go.Proofs.YtfpdmlhknddffaaW.PrintLast Go.Proofs.YtfpdmlhknddffaaW.PrintMore
open Go.ChangeShapes Go.WideShapes Go.ChangeAt Go.Joins Go.Deep
set_option linter.unusedVariables false
theorem laidOut : laidOutB Try.prog = true := by kernel_rfl
end Go.Proofs.Ytfpdmlhknddffaa.Dk
end
section
namespace Go.Proofs.Ytfpdmlhknddffaa.Dk
open Go.RowKit Go.Proofs.YtfpdmlhknddffaaW.PrintWords Go.Proofs.YtfpdmlhknddffaaW.PrintLast Go.Proofs.YtfpdmlhknddffaaW.PrintMore
open Go.ChangeShapes Go.WideShapes Go.ChangeAt Go.Joins Go.Deep
set_option linter.unusedVariables false
theorem open_row2 {w : World} {H : Type} {enc : TypeId × Value → H} {base : Nat} {spare : Nat → Bool} {held : Bool} {fuel : Nat} {cs : List Value} {x : DataW H × List MemPlace}
 (h : DataW.trod enc Try.prog w base spare held fuel 22 cs = some x) :
 ∃ (A : Option Addr) (c : Nat) (l : List Int), cs = [.slice A l.length c] ∧ l.length ≤ c ∧ Kd.C (Kd.int .u8) w A l.length l ∧ (∀ n ∈ l, (Lit.int .u8 n).wf = true) ∧ ∀ R, (∀ m ∈ x.1.weights Try.prog 22, m ≤ R) → l.length ≤ R := by
 rcases open_ints (k := .u8) (e := 5) Try.underlying22 (by kernel_rfl) (by kernel_rfl) h with ⟨rfl, rfl⟩ | ⟨a, len, cap, zs, rfl, _, hl, hm, hz, rfl, hcell, hwz⟩
 · exact ⟨none, 0, [], rfl, Nat.le_refl _, Kd.C_nil _ _, fun n hn => by simp at hn, fun _ _ => Nat.zero_le _⟩
 · have hle : len ≤ zs.length := by rw [hz]; split <;> omega
   have hlen : (zs.take len).length = len := by rw [List.length_take]; omega
   have hmax : cap ≤ 9223372036854775807 := hm
   have hr : ReadsInt w .u8 (some a) len (zs.take len) := ⟨hlen, by omega, fun _ => ⟨a, rfl, fun j hj => by
    rw [hcell j (by omega)]
    simp [List.getD, hj]⟩⟩
   refine ⟨some a, cap, zs.take len, by rw [hlen], by omega, ?_, fun n hn => hwz n (List.mem_of_mem_take hn), fun R hR => ?_⟩
   · rw [hlen]
     exact Kd.C_of_reads (d := (0 : Int)) (h1 := fun _ => rfl) hr
   · have hb : Try.prog.bytesOf 5 = 1 := by kernel_rfl
     have hu := Try.underlying22
     have := hR (((lits (H := H) .u8 (zs.take len)).length + (lits (H := H) .u8 (zs.drop len)).length) * Try.prog.bytesOf 5) (by simp [DataW.weights, hu])
     rw [hb] at this
     simp [lits] at this
     rw [hlen]
     omega
theorem weightsAll_mem {H : Type} {P : Program} {e : TypeId} {d : DataW H} : ∀ {l : List (DataW H)}, d ∈ l → ∀ m ∈ d.weights P e, m ∈ DataW.weightsAll P e l := by
 intro l
 induction l with
 | nil => intro h; simp at h
 | cons y l ih =>
  intro h m hm
  simp only [DataW.weightsAll, List.mem_append]
  rcases List.mem_cons.1 h with rfl | h
  · exact .inl hm
  · exact .inr (ih h m hm)
theorem u16_of {n : Int} (h : (Lit.int .u16 n).wf = true) : 0 ≤ n ∧ n ≤ 65535 := bounds_u16 h
theorem u8_of {n : Int} (h : (Lit.int .u8 n).wf = true) : 0 ≤ n ∧ n ≤ 255 := bounds_u8 h
end Go.Proofs.Ytfpdmlhknddffaa.Dk
end
section
namespace Go.Proofs.Ytfpdmlhknddffaa.Dk
open Go.RowKit Go.Proofs.YtfpdmlhknddffaaW.PrintWords Go.Proofs.YtfpdmlhknddffaaW.PrintLast Go.Proofs.YtfpdmlhknddffaaW.PrintMore
open Go.ChangeShapes Go.WideShapes Go.ChangeAt Go.Joins Go.Deep
set_option linter.unusedVariables false
theorem open_rows {r : Reach} {w : World} {H : Type} {enc : TypeId × Value → H} {base b0 : Nat} {spare : Nat → Bool} {held : Bool} {v : Value} {d : DataW H} {p : List MemPlace}
 (hv : Value.okWide Try.prog w r b0 49 v) (h : DataW.Trod enc Try.prog w base spare held 49 v d p) (hz : ∀ m ∈ d.weights Try.prog 49, m ≤ reachBytes) :
 ∃ (A : Option Addr) (c : Nat) (L : List (List Int)), v = .slice A L.length c ∧ Kd.C (Kd.slice 5 (Kd.int .u8)) w A L.length L ∧ L.length ≤ c ∧ (∀ x ∈ L, x.length ≤ 140737488355328) ∧ ∀ y ∈ L, ∀ x ∈ y, 0 ≤ x ∧ x ≤ 255 := by
 obtain ⟨a, len, cap, rfl⟩ := okWide_slice Try.underlying49 hv
 obtain ⟨fuel, hf⟩ := h
 rcases open_slice1 Try.underlying49 (by kernel_rfl) hf with ⟨e, _⟩ | ⟨a, len, cap, m, n, V, D, Pl, e, _, hl, hm, hmm, hd, hx⟩
 · simp [Value.cells] at e
   obtain ⟨rfl, rfl, rfl⟩ := e
   exact ⟨none, 0, [], rfl, Kd.C_nil _ _, Nat.le_refl _, fun _ h => (by cases h), fun _ h => (by cases h)⟩
 · simp [Value.cells] at e
   obtain ⟨rfl, rfl, rfl⟩ := e
   have hle : len ≤ m := by rw [hmm]; split <;> omega
   have H : ∀ i, i < len → ∃ (y : List Int) (A1 : Option Addr) (c1 : Nat), w.cell? (a.add i) = some (.slice A1 y.length c1) ∧ y.length ≤ c1 ∧ Kd.C (Kd.int .u8) w A1 y.length y ∧ (∀ n ∈ y, (Lit.int .u8 n).wf = true) ∧ ∀ R, (∀ m ∈ (D i).weights Try.prog 22, m ≤ R) → y.length ≤ R := by
    intro i hi
    obtain ⟨h0, t0⟩ := hx i (by omega)
    obtain ⟨A1, c1, l1, e1, hc1, hC1, hw1, hR1⟩ := open_row2 t0
    simp at e1
    exact ⟨l1, A1, c1, by rw [h0, e1], hc1, hC1, hw1, hR1⟩
   let F : Nat → List Int := fun i => if hi : i < len then Classical.choose (H i hi) else []
   have HF : ∀ i, i < len → ∃ (A1 : Option Addr) (c1 : Nat), w.cell? (a.add i) = some (.slice A1 (F i).length c1) ∧ (F i).length ≤ c1 ∧ Kd.C (Kd.int .u8) w A1 (F i).length (F i) ∧ (∀ n ∈ F i, (Lit.int .u8 n).wf = true) ∧ ∀ R, (∀ m ∈ (D i).weights Try.prog 22, m ≤ R) → (F i).length ≤ R := by
    intro i hi
    have e : F i = Classical.choose (H i hi) := dif_pos hi
    rw [e]
    exact Classical.choose_spec (H i hi)
   have hlen : ((List.range len).map F).length = len := by simp
   refine ⟨some a, cap, (List.range len).map F, by rw [hlen], ?_, by omega, ?_, ?_⟩
   · rw [hlen]
     refine ⟨hlen, by have : cap ≤ 9223372036854775807 := hm; omega, fun _ => ⟨a, rfl, fun j p hj => ?_⟩⟩
     have hj2 : j < len := by
      have := (List.getElem?_eq_some_iff.1 hj).1
      rw [hlen] at this
      exact this
     obtain rfl : F j = p := by simpa [hj2] using hj
     obtain ⟨A1, c1, q0, q1, q2, _⟩ := HF j hj2
     refine ⟨[.slice A1 (F j).length c1], rfl, ⟨A1, c1, rfl, q1, q2⟩, fun i u hu => ?_⟩
     match i, hu with
     | 0, hu => simp at hu; subst hu; exact (by simpa [Kd.slice] using q0)
     | i + 1, hu => simp at hu
   · intro y hy
     obtain ⟨i, hi, rfl⟩ := List.mem_map.1 hy
     refine (HF i (List.mem_range.1 hi)).choose_spec.choose_spec.2.2.2.2 _ (fun q hq => Nat.le_trans (hz q ?_) (by decide))
     have hu := Try.underlying49
     have hd1 : d = _ := congrArg Prod.fst hd
     rw [hd1]
     simp only [DataW.weights, hu, List.mem_cons, List.mem_append]
     exact .inr (.inl (weightsAll_mem (d := D i) (List.mem_map.2 ⟨i, hi, rfl⟩) q hq))
   · intro y hy x hx
     obtain ⟨i, hi, rfl⟩ := List.mem_map.1 hy
     exact u8_of ((HF i (List.mem_range.1 hi)).choose_spec.choose_spec.2.2.2.1 x hx)
end Go.Proofs.Ytfpdmlhknddffaa.Dk
end
section
namespace Go.Proofs.Ytfpdmlhknddffaa.Dk
open Go.RowKit Go.Proofs.YtfpdmlhknddffaaW.PrintWords Go.Proofs.YtfpdmlhknddffaaW.PrintLast Go.Proofs.YtfpdmlhknddffaaW.PrintMore
theorem seq_row (a:Int) (A:Option Addr) (c:Nat) (L:List (List Int)) (w:World) (hR:Kd.C (Kd.slice 5 (Kd.int .u8)) w A L.length L) (hc:L.length ≤ c) (hl:∀ r ∈ L,r.length ≤ 140737488355328) (hb:∀ r ∈ L,∀ x ∈ r,0 ≤ x∧x ≤ 255) (ha:0 ≤ a∧a ≤ 65535) :
 Calls Try.prog 13 #[.int .u16 a,.slice A L.length c] w fun e w'=>e=.returned (.bool true)∧Below w.heap.size w w':=by
 obtain ⟨n,rfl⟩:=Int.eq_ofNat_of_zero_le ha.1
 exact seq_calls n A L.length c L w hR rfl hc hb hl (by have:=ha.2;omega)
end Go.Proofs.Ytfpdmlhknddffaa.Dk
end
