/- Part 13 of the proof. Conditions: none. -/
import Derived.Test.YtahpnackkmbmgaaF12
import Derived.Test.YtahpnackkmbmgaaF0
set_option linter.all false
set_option linter.unusedVariables false
set_option linter.unusedSimpArgs false
section
namespace Go.Proofs.Ytahpnackkmbmgaa.Vm
open Go.RowKit
set_option maxRecDepth 100000
set_option maxHeartbeats 4000000
def nmF {α:Type} (c:Bool) (x y:α):α:=match c with|true=>x|false=>y
def hd2 (row b8 bl named bw bem bnl numbered bn0:Bool):Bool:=(row == b8) && (bl && (nmF named bw bem && (!bnl && (numbered || bn0))))
theorem b4b (op:Int) (nm:ByteArray) (n:Int) (ks:List Ty) (row:Bool) (es:List (R×R)) (s:Int→Option Bool) (kn:Int) (named numbered:Bool) (j12 j13 j14 j15 j16 j17 j18 j19 j20 j21 j22 j23 j24 j25 j26 j27 j28 j29 j30 j31:V) (kk:List Int) (b:Bool) (F:Option (Int→Option Bool))
    (hes:SAt es s) (hnm:nm.size≤1048576) (hks:ks.length≤1048576)
    (hkk:ks.length=kn→kk.length=ks.length) (hfl:∀k c,kk[k]?=some c→sI (orB (op == 5) (orB (op == 6) (nmF (op == 11) (k == 1) false)))=c)
    (hb:hd2 row (decide (8≤op)) (decide ((ks.length:Int)=kn)) named (B2 nm) (decide (nm.toList=[])) (decide (n<0)) numbered (n == 0)=true→b=(F7 B2 ks kk && F.isSome))
    (hb0:hd2 row (decide (8≤op)) (decide ((ks.length:Int)=kn)) named (B2 nm) (decide (nm.toList=[])) (decide (n<0)) numbered (n == 0)=false→b=false)
    (hF:hd2 row (decide (8≤op)) (decide ((ks.length:Int)=kn)) named (B2 nm) (decide (nm.toList=[])) (decide (n<0)) numbered (n == 0)=true→F=nmF numbered (if s n=some (!row) then none else G6 (Y7 ks) (b1j s n row)) (G6 (Y7 ks) s))
    (ih:∀x∈ks,∀(row:Bool) (es:List (R×R)) (s:Int→Option Bool),SAt es s→n7 109 [.mp 0,.ag (y5 (cT x)),vb row] [.mp 3 es] (a6j (F6 B2 x (sI row) && (G6 x.parts s).isSome) (G6 x.parts s))):∀qa qb qc qd qe qg qh qi qj qk ql qm qo qp qq qt qu qv qw qx qy qz va vc vd ve vf vg vh vj vk vl vm vn vo vp vq vr vt vu vv vw vx,Ar.mk qa qb qc qd qe qg qh qi qj qk ql qm qo qp qq qt qu qv qw qx qy qz va vc vd ve vf vg vh vj vk vl vm vn vo vp vq vr vt vu vv vw vx=f7 →
    B4 (Ar.mk qa qb qc qd qe qg qh qi qj qk ql qm qo qp qq qt qu qv qw qx qy qz va vc vd ve vf vg vh vj vk vl vm vn vo vp vq vr vt vu vv vw vx) (j6 (j6 (j6 (j6 (Try.f109.body.getD .skip))))) (rtS op nm n (rT ks) row es kn named numbered j12 j13 j14 j15 j16 j17 j18 j19 j20 j21 j22 j23 j24 j25 j26 j27 j28 j29 j30 j31) (fun x s=>c1A (Ar.mk qa qb qc qd qe qg qh qi qj qk ql qm qo qp qq qt qu qv qw qx qy qz va vc vd ve vf vg vh vj vk vl vm vn vo vp vq vr vt vu vv vw vx) 1 (a6j b F) Try.f109.results.toList x s):=by
  intro qa qb qc qd qe qg qh qi qj qk ql qm qo qp qq qt qu qv qw qx qy qz va vc vd ve vf vg vh vj vk vl vm vn vo vp vq vr vt vu vv vw vx hA
  obtain ⟨K,hK⟩:∃K,K=rT ks:=⟨_,rfl⟩
  rw [←hK]
  obtain ⟨e1,e2,e3,e4,e5,e6,e7,e8,e9⟩:=m6 hA
  obtain ⟨s1,s2,s3,s4,s5,s6,-⟩:=I3 hA
  obtain ⟨r1,r2,-⟩:=C7 hA
  have hW:=b9c nm (by omega)
  have h8:qj 8 op=decide (8≤op):=e8 _ _
  have hl:qk (va K) kn=decide ((ks.length:Int)=kn):=by rw [e9,r1,hK,a3m];rfl
  have hem:qm (qp nm) (qp ⟨⟨[]⟩⟩)=decide (nm.toList=[]):=by
    rw [s1,s3,s3,a4v ⟨⟨[]⟩⟩,show btl ⟨⟨[]⟩⟩=[] from rfl]
    cases nm.toList <;> rfl
  have hnl:qi n 0=decide (n<0):=e7 _ _
  have hn0:qk n 0=(n == 0):=e9 _ _
  have h5:qk op 5=(op == 5):=e9 _ _
  have h6:qk op 6=(op == 6):=e9 _ _
  have h11:qk op 11=(op == 11):=e9 _ _
  have hes2:=hes.set n row
  obtain ⟨o,ho⟩:∃o,s n=o:=⟨_,rfl⟩
  have hM:=c4Z es n row o (by rw [←ho];exact hes.2 n)
  rw [ho] at hF
  clear ho
  generalize a2N es (ik n) (.one (.sc (.bool row)))=es2 at *
  generalize b1j s n row=su at *
  generalize decide (8≤op)=b8 at *
  generalize hbl:decide ((ks.length:Int)=kn)=bl at *
  generalize B2 nm=bw at *
  generalize decide (nm.toList=[])=bem at *
  generalize decide (n<0)=bnl at *
  generalize (n == 0)=bn0 at *
  cases row <;> cases b8
  all_goals
      cbv
      repeat ((with_reducible apply f8 hA);cbv)
      try (rw [h8];cbv)
      repeat ((with_reducible apply f8 hA);cbv)
      first
      | (exact j9 hA [0] ⟨rfl,rfl,rfl,rfl,rfl,rfl,rfl,rfl⟩ ⟨es,rfl,hes.1,by rw [hb0 (by simp [hd2,nmF])],fun h=>by rw [hb0 (by simp [hd2,nmF])] at h;cases h⟩)
      | skip
  all_goals first|(rw [hl];cases bl)|skip
  all_goals
      cbv
      repeat ((with_reducible apply f8 hA);cbv)
      first
      | (exact j9 hA [0] ⟨rfl,rfl,rfl,rfl,rfl,rfl,rfl,rfl⟩ ⟨es,rfl,hes.1,by rw [hb0 (by simp [hd2,nmF])],fun h=>by rw [hb0 (by simp [hd2,nmF])] at h;cases h⟩)
      | skip
  all_goals first|(rw [hnl];cases bnl)|skip
  all_goals
      cbv
      repeat ((with_reducible apply f8 hA);cbv)
      first
      | (exact j9 hA [0] ⟨rfl,rfl,rfl,rfl,rfl,rfl,rfl,rfl⟩ ⟨es,rfl,hes.1,by rw [hb0 (by simp [hd2,nmF])],fun h=>by rw [hb0 (by simp [hd2,nmF])] at h;cases h⟩)
      | skip
  all_goals cases numbered
  all_goals
      cbv
      repeat ((with_reducible apply f8 hA);cbv)
  all_goals first|(rw [hn0];cases bn0)|skip
  all_goals
      cbv
      repeat ((with_reducible apply f8 hA);cbv)
      first
      | (exact j9 hA [0] ⟨rfl,rfl,rfl,rfl,rfl,rfl,rfl,rfl⟩ ⟨es,rfl,hes.1,by rw [hb0 (by simp [hd2,nmF])],fun h=>by rw [hb0 (by simp [hd2,nmF])] at h;cases h⟩)
      | skip
  all_goals cases named
  all_goals
      cbv
      repeat ((with_reducible apply f8 hA);cbv)
  all_goals first|(rw [hem];cases bem)|(refine i9 hA _ hW ?_ ?_;rfl;cases bw)
  all_goals
      cbv
      repeat ((with_reducible apply f8 hA);cbv)
      first
      | (exact j9 hA [0] ⟨rfl,rfl,rfl,rfl,rfl,rfl,rfl,rfl⟩ ⟨es,rfl,hes.1,by rw [hb0 (by simp [hd2,nmF])],fun h=>by rw [hb0 (by simp [hd2,nmF])] at h;cases h⟩)
      | skip
  all_goals
      replace hb:=hb rfl
      replace hF:=hF rfl
  all_goals first
    | (refine o6 hA [0] hM ⟨rfl,rfl,rfl,rfl,rfl,rfl,rfl⟩ ?_
       rintro res os2 ⟨rfl,rfl⟩
       rcases o with _|(_|_))
    | skip
  all_goals
      cbv
      repeat ((with_reducible apply f8 hA);cbv)
      first
      | (have hF0:F=none:=by rw [hF];rfl
         have hbf:b=false:=by rw [hb,hF0];exact d0Z _
         exact j9 hA [0] ⟨rfl,rfl,rfl,rfl,rfl,rfl,rfl,rfl⟩ ⟨es2,rfl,hes2.1,by rw [hbf],fun h=>by rw [hbf] at h;cases h⟩)
      | skip
  all_goals
      have hF2:=hF
      simp only [nmF] at hF2
      try simp only [reduceIte,Option.some.injEq,Bool.not_true,Bool.not_false,reduceCtorEq,d0r] at hF2
      first
      | refine o7 hA (γ:=Int×List (R×R)) (fun x=>[(86,vi .i64 x.1),(12,.jk),(13,.jk),(14,.jk),(15,.jk),(16,.jk),(17,.jk),(18,.jk),(19,.jk),(20,.jk),(21,.jk),(22,.jk),(23,.jk),(24,.jk),(25,.jk),(26,.jk),(27,.jk),(28,.jk),(29,.jk),(30,.jk),(31,.jk)]) (fun x=>[(0,.mp 3 x.2)]) (fun x=>∃(k:Nat) (sk:Int→Option Bool),x.1=(k:Int)∧k≤ks.length∧SAt x.2 sk∧b=(F7 B2 (ks.drop k) (kk.drop k) && F.isSome)∧F=G6 (Y7 (ks.drop k)) sk) (fun x=>ks.length - x.1.toNat) (0,es) ⟨0,s,rfl,c95 _,hes,hb,hF2⟩ ?_ ?_
      | refine o7 hA (γ:=Int×List (R×R)) (fun x=>[(86,vi .i64 x.1),(12,.jk),(13,.jk),(14,.jk),(15,.jk),(16,.jk),(17,.jk),(18,.jk),(19,.jk),(20,.jk),(21,.jk),(22,.jk),(23,.jk),(24,.jk),(25,.jk),(26,.jk),(27,.jk),(28,.jk),(29,.jk),(30,.jk),(31,.jk)]) (fun x=>[(0,.mp 3 x.2)]) (fun x=>∃(k:Nat) (sk:Int→Option Bool),x.1=(k:Int)∧k≤ks.length∧SAt x.2 sk∧b=(F7 B2 (ks.drop k) (kk.drop k) && F.isSome)∧F=G6 (Y7 (ks.drop k)) sk) (fun x=>ks.length - x.1.toNat) (0,es2) ⟨0,su,rfl,c95 _,hes2,hb,hF2⟩ ?_ ?_
      · cbv
      · intro x hinv
        obtain ⟨z,es3⟩:=x
        cbv
        repeat ((with_reducible apply f8 hA);cbv)
        obtain ⟨k,sk,hz,hk,hsk,hB,hFk⟩:=hinv
        replace hz:z=(k:Int):=hz
        replace hsk:SAt es3 sk:=hsk
        have hlen:va K=((ks.length:Nat):Int):=by rw [r1,hK,a3m]
        have hlt:qi z (va K)=decide (k<ks.length):=by rw [e7,hlen,hz];exact c9w.2 (by omega)
        by_cases h9:k<ks.length
        · rw [c9j h9] at hlt
          obtain ⟨x,hx⟩:∃x,ks[k]?=some x:=⟨_,c8T h9⟩
          have hkl:=hkk (c9B hbl)
          obtain ⟨c,hc⟩:∃c,kk[k]?=some c:=⟨_,c8T (by omega)⟩
          have d1:ks.drop k=x::ks.drop (k+1):=by obtain ⟨hi,e⟩:=c8S.1 hx;rw [c98 hi,e]
          have d2:kk.drop k=c::kk.drop (k+1):=by obtain ⟨hi,e⟩:=c8S.1 hc;rw [c98 hi,e]
          rw [d1,d2,F7] at hB
          rw [d1,Y7,a3t] at hFk
          have g1:vc K z=some (cT x):=by rw [r2,hz,c8Y (by omega),hK];exact b0Y hx
          have hfc:=hfl k c hc
          have hz0:qk z 1=(k == 1):=by
            rw [e9,hz]
            by_cases h:k=1
            · subst h;rfl
            · rw [c94.2 h,c94.2 (by omega)]
          have hz1:qa .i64 (qb z 1)=((k+1:Nat):Int):=by rw [e1,e2,hz,IntWalk.i64_in _ (by omega)];omega
          have hm:ks.length - (qa .i64 (qb z 1)).toNat<ks.length - z.toNat:=by rw [hz1,hz];omega
          have hsp:=fun fl=>ih x (c9h hx) fl es3 sk hsk
          generalize hSB:F6 B2 x c=sb at *
          generalize hML:G6 x.parts sk=ml at *
          have hsp2:∀fl,sI fl=c→n7 109 [.mp 0,.ag (y5 (cT x)),vb fl] [.mp 3 es3] (a6j (sb && ml.isSome) ml):=fun fl h=>by
            have:=hsp fl
            rw [h,hSB] at this
            exact this
          clear hsp ih
          obtain ⟨o1,m1,n1,l1⟩:=x
          rw [cT] at g1 hsp2
          generalize rT l1=L1 at *
          generalize (op == 5)=f5 at *
          generalize (op == 6)=f6 at *
          generalize (op == 11)=f11 at *
          generalize (k == 1)=fk at *
          rw [hlt]
          cbv
          repeat ((with_reducible apply f8 hA);cbv)
          rw [g1]
          cbv
          repeat ((with_reducible apply f8 hA);cbv)
          rw [h5]
          cases f5
          all_goals
            cbv
            repeat ((with_reducible apply f8 hA);cbv)
            first|(rw [h6];cases f6)|skip
          all_goals
            cbv
            repeat ((with_reducible apply f8 hA);cbv)
            first|(rw [h11];cases f11)|skip
          all_goals
            cbv
            repeat ((with_reducible apply f8 hA);cbv)
            first|(rw [hz0];cases fk)|skip
          all_goals
            cbv
            repeat ((with_reducible apply f8 hA);cbv)
            refine o6 hA [0] (hsp2 _ hfc) ⟨rfl,rfl,rfl,rfl,rfl,rfl,rfl⟩ ?_
            rintro res os2 ⟨es4,rfl,hk4,rfl,hm4⟩
            cases hq:(sb && ml.isSome)
            · rw [hq] at hm4
              cbv
              repeat ((with_reducible apply f8 hA);cbv)
              have hbf:b=false:=by
                rw [hB]
                cases sb
                · simp
                · cases ml with
                  | none=>rw [hFk];simp
                  | some s4=>cases hq
              exact j9 hA [0] ⟨rfl,rfl,rfl,rfl,rfl,rfl,rfl,rfl⟩ ⟨es4,rfl,hk4,by rw [hbf],fun h=>by rw [hbf] at h;cases h⟩
            · rw [hq] at hm4
              cbv
              repeat ((with_reducible apply f8 hA);cbv)
              cases ml with
              | none=>cases sb <;> cases hq
              | some s4 =>
                cases sb
                · cases hq
                exact ⟨(_,es4),⟨k+1,s4,hz1,h9,hm4 rfl s4 rfl,hB,hFk⟩,hm,by cbv⟩
        · rw [c9d h9] at hlt
          rw [hlt]
          cbv
          repeat ((with_reducible apply f8 hA);cbv)
          have hd:ks.drop k=[]:=c9R (by omega)
          rw [hd,Y7] at hFk
          rw [hd,F7,hFk] at hB
          have hbt:b=true:=hB
          exact j9 hA [0] ⟨rfl,rfl,rfl,rfl,rfl,rfl,rfl,rfl⟩ ⟨es3,rfl,hsk.1,by rw [hbt],fun _ s' h=>by rw [hFk] at h;cases h;exact hsk⟩
end Go.Proofs.Ytahpnackkmbmgaa.Vm
end
