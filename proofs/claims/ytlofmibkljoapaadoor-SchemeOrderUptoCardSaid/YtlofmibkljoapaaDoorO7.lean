/- Part 7 of the proof. Conditions: none. -/
import Derived.Test.YtlofmibkljoapaaDoorO6
import Derived.Test.YtlofmibkljoapaaDoorO0
set_option linter.all false
set_option linter.unusedVariables false
set_option linter.unusedSimpArgs false
section
namespace Go.Proofs.YtlofmibkljoapaaDoor.Vm
open Go.RowKit
set_option maxRecDepth 100000
set_option maxHeartbeats 4000000
def nmF {α:Type} (c:Bool) (x y:α):α:=match c with|true=>x|false=>y
def hd2 (row b8 bl named bw bem bnl numbered bn0:Bool):Bool:=(row == b8) && (bl && (nmF named bw bem && (!bnl && (numbered || bn0))))
theorem b22 (op:Int) (nm:ByteArray) (n:Int) (ks:List Ty) (row:Bool) (es:List (R×R)) (s:Int->Option Bool) (kn:Int) (named numbered:Bool) (j12 j13 j14 j15 j16 j17 j18 j19 j20 j21 j22 j23 j24 j25 j26 j27 j28 j29 j30 j31:V) (kk:List Int) (b:Bool) (F:Option (Int->Option Bool))
    (hes:SAt es s) (hnm:nm.size<=1048576) (hks:ks.length<=1048576)
    (hkk:ks.length=kn->kk.length=ks.length) (hfl:∀k c,kk[k]?=some c->sI (orB (op == 5) (orB (op == 6) (nmF (op == 11) (k == 1) false)))=c)
    (hb:hd2 row (decide (8<=op)) (decide ((ks.length:Int)=kn)) named (j4 nm) (decide (nm.toList=[])) (decide (n<0)) numbered (n == 0)=true->b=(n6 j4 ks kk && F.isSome))
    (hb0:hd2 row (decide (8<=op)) (decide ((ks.length:Int)=kn)) named (j4 nm) (decide (nm.toList=[])) (decide (n<0)) numbered (n == 0)=false->b=false)
    (hF:hd2 row (decide (8<=op)) (decide ((ks.length:Int)=kn)) named (j4 nm) (decide (nm.toList=[])) (decide (n<0)) numbered (n == 0)=true->F=nmF numbered (if s n=some (!row) then none else E6 (o5 ks) (a7w s n row)) (E6 (o5 ks) s))
    (ih:∀x∈ks,∀(row:Bool) (es:List (R×R)) (s:Int->Option Bool),SAt es s->j3 30 [.mp 0,.ag (ofD (cT x)),vb row] [.mp 3 es] (a5A (c9 j4 x (sI row) && (E6 x.parts s).isSome) (E6 x.parts s))):∀qa qb qc qd qe qf qg qh qi qj qk ql qm qo qp qq qs qt qu qv qw qx qy qz va vc vd ve vf vg vh vj vk vl vp vq vr vt vu vv vw vx vy,Ar.mk qa qb qc qd qe qf qg qh qi qj qk ql qm qo qp qq qs qt qu qv qw qx qy qz va vc vd ve vf vg vh vj vk vl vp vq vr vt vu vv vw vx vy=a7 ->
    w5 (Ar.mk qa qb qc qd qe qf qg qh qi qj qk ql qm qo qp qq qs qt qu qv qw qx qy qz va vc vd ve vf vg vh vj vk vl vp vq vr vt vu vv vw vx vy) (f7 (f7 (f7 (f7 (Tryd.f30.body.getD .skip))))) (rtS op nm n (rT ks) row es kn named numbered j12 j13 j14 j15 j16 j17 j18 j19 j20 j21 j22 j23 j24 j25 j26 j27 j28 j29 j30 j31) (λx s=>c0n (Ar.mk qa qb qc qd qe qf qg qh qi qj qk ql qm qo qp qq qs qt qu qv qw qx qy qz va vc vd ve vf vg vh vj vk vl vp vq vr vt vu vv vw vx vy) 1 (a5A b F) Tryd.f30.results.toList x s):=by
  intro qa qb qc qd qe qf qg qh qi qj qk ql qm qo qp qq qs qt qu qv qw qx qy qz va vc vd ve vf vg vh vj vk vl vp vq vr vt vu vv vw vx vy hA;obtain⟨K,hK⟩:∃K,K=rT ks:=⟨_,rfl⟩;rw[<-hK];obtain⟨e1,e2,e3,e4,e5,e6,e7,e8,e9⟩:=j8 hA;obtain⟨s1,s2,s3,s4,s5,s6,-⟩:=A3 hA;obtain⟨r1,r2,-⟩:=n9 hA;have hW:=b6T nm (by omega);have h8:qi 8 op=decide (8<=op):=e8 _ _;have hl:qj (qy K) kn=decide ((ks.length:Int)=kn):=by rw[e9,r1,hK,E8];rfl
  have hem:ql (qo nm) (qo ⟨⟨[]⟩⟩)=decide (nm.toList=[]):=by
    rw[s1,s3,s3,a2b ⟨⟨[]⟩⟩,show P0 ⟨⟨[]⟩⟩=[] from rfl];cases nm.toList <;> rfl
  have hnl:qh n 0=decide (n<0):=e7 _ _;have hn0:qj n 0=(n == 0):=e9 _ _;have h5:qj op 5=(op == 5):=e9 _ _;have h6:qj op 6=(op == 6):=e9 _ _;have h11:qj op 11=(op == 11):=e9 _ _;have hes2:=hes.set n row;obtain⟨o,ho⟩:∃o,s n=o:=⟨_,rfl⟩;have hM:=c08 es n row o (by rw[<-ho];exact hes.2 n);rw[ho] at hF;clear ho;generalize a0y es (ik n) (.one (.sc (.bool row)))=es2 at *;generalize a7w s n row=su at *;generalize decide (8<=op)=b8 at *;generalize hbl:decide ((ks.length:Int)=kn)=bl at *;generalize j4 nm=bw at *;generalize decide (nm.toList=[])=bem at *;generalize decide (n<0)=bnl at *;generalize (n == 0)=bn0 at *;cases row <;> cases b8
  all_goals
      cbv
      repeat ((with_reducible apply b5 hA);cbv)
      try (rw[h8];cbv)
      repeat ((with_reducible apply b5 hA);cbv)
      first
      | (exact d7 hA [0] ⟨rfl,rfl,rfl,rfl,rfl,rfl,rfl,rfl⟩ ⟨es,rfl,hes.1,by rw[hb0 (by simp[hd2,nmF])],λh=>by rw[hb0 (by simp[hd2,nmF])] at h;cases h⟩)
      | skip
  all_goals first|(rw[hl];cases bl)|skip
  all_goals
      cbv
      repeat ((with_reducible apply b5 hA);cbv)
      first
      | (exact d7 hA [0] ⟨rfl,rfl,rfl,rfl,rfl,rfl,rfl,rfl⟩ ⟨es,rfl,hes.1,by rw[hb0 (by simp[hd2,nmF])],λh=>by rw[hb0 (by simp[hd2,nmF])] at h;cases h⟩)
      | skip
  all_goals first|(rw[hnl];cases bnl)|skip
  all_goals
      cbv
      repeat ((with_reducible apply b5 hA);cbv)
      first
      | (exact d7 hA [0] ⟨rfl,rfl,rfl,rfl,rfl,rfl,rfl,rfl⟩ ⟨es,rfl,hes.1,by rw[hb0 (by simp[hd2,nmF])],λh=>by rw[hb0 (by simp[hd2,nmF])] at h;cases h⟩)
      | skip
  all_goals cases numbered
  all_goals
      cbv
      repeat ((with_reducible apply b5 hA);cbv)
  all_goals first|(rw[hn0];cases bn0)|skip
  all_goals
      cbv
      repeat ((with_reducible apply b5 hA);cbv)
      first
      | (exact d7 hA [0] ⟨rfl,rfl,rfl,rfl,rfl,rfl,rfl,rfl⟩ ⟨es,rfl,hes.1,by rw[hb0 (by simp[hd2,nmF])],λh=>by rw[hb0 (by simp[hd2,nmF])] at h;cases h⟩)
      | skip
  all_goals cases named
  all_goals
      cbv
      repeat ((with_reducible apply b5 hA);cbv)
  all_goals first|(rw[hem];cases bem)|(refine b9 hA _ hW ?_ ?_;rfl;cases bw)
  all_goals
      cbv
      repeat ((with_reducible apply b5 hA);cbv)
      first
      | (exact d7 hA [0] ⟨rfl,rfl,rfl,rfl,rfl,rfl,rfl,rfl⟩ ⟨es,rfl,hes.1,by rw[hb0 (by simp[hd2,nmF])],λh=>by rw[hb0 (by simp[hd2,nmF])] at h;cases h⟩)
      | skip
  all_goals
      replace hb:=hb rfl;replace hF:=hF rfl
  all_goals first
    | (refine c7 hA [0] hM ⟨rfl,rfl,rfl,rfl,rfl,rfl,rfl⟩ ?_
       rintro res os2 ⟨rfl,rfl⟩
       rcases o with _|(_|_))
    | skip
  all_goals
      cbv
      repeat ((with_reducible apply b5 hA);cbv)
      first
      | (have hF0:F=none:=by rw[hF];rfl
         have hbf:b=false:=by rw[hb,hF0];exact Bool.and_false _
         exact d7 hA [0] ⟨rfl,rfl,rfl,rfl,rfl,rfl,rfl,rfl⟩ ⟨es2,rfl,hes2.1,by rw[hbf],λh=>by rw[hbf] at h;cases h⟩)
      | skip
  all_goals
      have hF2:=hF;simp only[nmF] at hF2
      try simp only[reduceIte,Option.some.injEq,Bool.not_true,Bool.not_false,reduceCtorEq,c4g] at hF2
      first
      | refine l9 hA (γ:=Int×List (R×R)) (λx=>[(86,vi .i64 x.1),(12,.jk),(13,.jk),(14,.jk),(15,.jk),(16,.jk),(17,.jk),(18,.jk),(19,.jk),(20,.jk),(21,.jk),(22,.jk),(23,.jk),(24,.jk),(25,.jk),(26,.jk),(27,.jk),(28,.jk),(29,.jk),(30,.jk),(31,.jk)]) (λx=>[(0,.mp 3 x.2)]) (λx=>∃(k:Nat) (sk:Int->Option Bool),x.1=(k:Int)/\k<=ks.length/\SAt x.2 sk/\b=(n6 j4 (ks.drop k) (kk.drop k) && F.isSome)/\F=E6 (o5 (ks.drop k)) sk) (λx=>ks.length - x.1.toNat) (0,es) ⟨0,s,rfl,c3d _,hes,hb,hF2⟩ ?_ ?_
      | refine l9 hA (γ:=Int×List (R×R)) (λx=>[(86,vi .i64 x.1),(12,.jk),(13,.jk),(14,.jk),(15,.jk),(16,.jk),(17,.jk),(18,.jk),(19,.jk),(20,.jk),(21,.jk),(22,.jk),(23,.jk),(24,.jk),(25,.jk),(26,.jk),(27,.jk),(28,.jk),(29,.jk),(30,.jk),(31,.jk)]) (λx=>[(0,.mp 3 x.2)]) (λx=>∃(k:Nat) (sk:Int->Option Bool),x.1=(k:Int)/\k<=ks.length/\SAt x.2 sk/\b=(n6 j4 (ks.drop k) (kk.drop k) && F.isSome)/\F=E6 (o5 (ks.drop k)) sk) (λx=>ks.length - x.1.toNat) (0,es2) ⟨0,su,rfl,c3d _,hes2,hb,hF2⟩ ?_ ?_
      · cbv
      · intro x hinv
        obtain⟨z,es3⟩:=x;cbv
        repeat ((with_reducible apply b5 hA);cbv)
        obtain⟨k,sk,hz,hk,hsk,hB,hFk⟩:=hinv;replace hz:z=(k:Int):=hz;replace hsk:SAt es3 sk:=hsk;have hlen:qy K=((ks.length:Nat):Int):=by rw[r1,hK,E8]
        have hlt:qh z (qy K)=decide (k<ks.length):=by rw[e7,hlen,hz];exact c2Q.2 (by omega)
        by_cases h9:k<ks.length
        · rw[c2J h9] at hlt
          obtain⟨x,hx⟩:∃x,ks[k]?=some x:=⟨_,c28 h9⟩;have hkl:=hkk (c3c hbl);obtain⟨c,hc⟩:∃c,kk[k]?=some c:=⟨_,c28 (by omega)⟩;have d1:ks.drop k=x::ks.drop (k+1):=by obtain⟨hi,e⟩:=c25.1 hx;rw[c2X hi,e]
          have d2:kk.drop k=c::kk.drop (k+1):=by obtain⟨hi,e⟩:=c25.1 hc;rw[c2X hi,e]
          rw[d1,d2,n6] at hB;rw[d1,o5,a2S] at hFk;have g1:qz K z=some (cT x):=by rw[r2,hz,c2E (by omega),hK];exact a04 hx
          have hfc:=hfl k c hc
          have hz0:qj z 1=(k == 1):=by
            rw[e9,hz]
            by_cases h:k=1
            · subst h;rfl
            · rw[c2O.2 h,c2O.2 (by omega)]
          have hz1:qa .i64 (qb z 1)=((k+1:Nat):Int):=by rw[e1,e2,hz,IntWalk.i64_in _ (by omega)];omega
          have hm:ks.length - (qa .i64 (qb z 1)).toNat<ks.length - z.toNat:=by rw[hz1,hz];omega
          have hsp:=λfl=>ih x (c2F hx) fl es3 sk hsk
          generalize hSB:c9 j4 x c=sb at *;generalize hML:E6 x.parts sk=ml at *
          have hsp2:∀fl,sI fl=c->j3 30 [.mp 0,.ag (ofD (cT x)),vb fl] [.mp 3 es3] (a5A (sb && ml.isSome) ml):=λfl h=>by
            have:=hsp fl;rw[h,hSB] at this;exact this
          clear hsp ih;obtain⟨o1,m1,n1,l1⟩:=x;rw[cT] at g1 hsp2;generalize rT l1=L1 at *;generalize (op == 5)=f5 at *;generalize (op == 6)=f6 at *;generalize (op == 11)=f11 at *;generalize (k == 1)=fk at *;rw[hlt];cbv
          repeat ((with_reducible apply b5 hA);cbv)
          rw[g1];cbv
          repeat ((with_reducible apply b5 hA);cbv)
          rw[h5];cases f5
          all_goals
            cbv
            repeat ((with_reducible apply b5 hA);cbv)
            first|(rw[h6];cases f6)|skip
          all_goals
            cbv
            repeat ((with_reducible apply b5 hA);cbv)
            first|(rw[h11];cases f11)|skip
          all_goals
            cbv
            repeat ((with_reducible apply b5 hA);cbv)
            first|(rw[hz0];cases fk)|skip
          all_goals
            cbv
            repeat ((with_reducible apply b5 hA);cbv)
            refine c7 hA [0] (hsp2 _ hfc) ⟨rfl,rfl,rfl,rfl,rfl,rfl,rfl⟩ ?_
            rintro res os2 ⟨es4,rfl,hk4,rfl,hm4⟩
            cases hq:(sb && ml.isSome)
            · rw[hq] at hm4
              cbv
              repeat ((with_reducible apply b5 hA);cbv)
              have hbf:b=false:=by
                rw[hB];cases sb
                · simp
                · cases ml with
                  | none=>rw[hFk];simp
                  | some s4=>cases hq
              exact d7 hA [0] ⟨rfl,rfl,rfl,rfl,rfl,rfl,rfl,rfl⟩ ⟨es4,rfl,hk4,by rw[hbf],λh=>by rw[hbf] at h;cases h⟩
            · rw[hq] at hm4
              cbv
              repeat ((with_reducible apply b5 hA);cbv)
              cases ml with
              | none=>cases sb <;> cases hq
              | some s4 =>
                cases sb
                · cases hq
                exact⟨(_,es4),⟨k+1,s4,hz1,h9,hm4 rfl s4 rfl,hB,hFk⟩,hm,by cbv⟩
        · rw[c2G h9] at hlt
          rw[hlt];cbv
          repeat ((with_reducible apply b5 hA);cbv)
          have hd:ks.drop k=[]:=c3j (by omega);rw[hd,o5] at hFk;rw[hd,n6,hFk] at hB;have hbt:b=true:=hB;exact d7 hA [0] ⟨rfl,rfl,rfl,rfl,rfl,rfl,rfl,rfl⟩ ⟨es3,rfl,hsk.1,by rw[hbt],λ_ s' h=>by rw[hFk] at h;cases h;exact hsk⟩
end Go.Proofs.YtlofmibkljoapaaDoor.Vm
end
