/- Part 22 of the proof. Conditions: none. -/
import Derived.Test.YtdjnoafijjepcaaGreatT4
import Derived.Test.YtdjnoafijjepcaaGreatT21
import Derived.Test.YtdjnoafijjepcaaGreatT0
set_option linter.all false
set_option linter.unusedVariables false
set_option linter.unusedSimpArgs false
section
namespace Go.Proofs.YtdjnoafijjepcaaGreat.Vm
open Go.RowKit
set_option maxRecDepth 100000
set_option maxHeartbeats 4000000
theorem c3Y:∀t:Tm,(m7 t).length<=1048576->(∀x∈m7 t,SmT x)->∀arms:Bool,rtM GA arms t=true->o8 7 [.ag (cM t),.one (.sc (.bool arms))] [.one (.sc (.bool true))]:=by
  intro t
  induction t using Tm.ind with
  | h op nm ar n b a ks ih =>
    intro hN hS arms hT;have hself:SmT (.mk op nm ar n b a ks):=hS _ (by rw[m7];exact d3L ..)
    have hkn:∀k∈ks,(m7 k).length<=1048576/\∀x∈m7 k,SmT x:=λk hk=>by
      have hsub:∀x∈m7 k,x∈m7 (.mk op nm ar n b a ks):=λx hx=>by
        rw[m7,P0];exact d3M _ (d40.2 ⟨k,hk,hx⟩)
      refine⟨?_,λx hx=>hS x (hsub x hx)⟩;obtain⟨i,hi⟩:=d42.1 hk;have h1:(m7 (.mk op nm ar n b a ks)).length=1+(ks.flatMap m7).length:=by rw[m7,P0,d3O];omega
      have h2:((ks.take (i+1)).flatMap m7).length=((ks.take i).flatMap m7).length+(m7 k).length:=by
        rw[d6u,hi,d4Q,d3K]
        simp
      have h3:(ks.flatMap m7).length=((ks.take (i+1)).flatMap m7).length+((ks.drop (i+1)).flatMap m7).length:=by
        conv=>lhs;rw[<-d46 (i+1) ks,d4Q,d3K]
      omega
    have hkl:ks.length<=1048576:=by
      have h1:(m7 (.mk op nm ar n b a ks)).length=1+(ks.flatMap m7).length:=by rw[m7,P0,d3O];omega
      have:=a6Y m7 a5k ks;omega
    have hcp:=λk hk arms=>ih k hk (hkn k hk).1 (hkn k hk).2 arms
    have hst:∀k x,ks[k]?=some x->ks.drop k=x::ks.drop (k+1):=λk x hx=>by
      obtain⟨hi,e⟩:=d3J.1 hx;rw[d4c hi,e]
    clear ih hN hS hkn;rw[rtM,d3N] at hT;obtain⟨hT,hR⟩:=hT;obtain⟨s,x,y,c,v,hsh,hf,k0,k1,harm,hkk⟩:=c9Q hself hT;obtain⟨f1,f2,f3,f4,f5,f6,f7,f8,f9,f10,f11,f12,f13⟩:=hf;obtain⟨h99,h98⟩:=c3R hsh;clear hself hT f2 f3 f4 f5 f6 f7 f8 f12 f13 hsh;obtain⟨a0,a1,a2,a3,haa⟩:=m8 a;rw[cM,haa] at k1 ⊢;obtain⟨K,hK⟩:∃K,K=rM ks:=⟨_,rfl⟩;rw[<-hK] at k1 ⊢;have hl:(K.length:Int)=(ks.length:Int):=by rw[hK,a5Z]
    have hget:∀(k:Nat) x,ks[k]?=some x->j5.get K (k:Int)=some (cM x):=λk x hx=>by
      show (if (0:Int)<=(k:Int) then K[((k:Int)).toNat]? else none)=_;rw[d3I (by omega),show ((k:Int)).toNat=k by omega,hK];exact b0G hx
    obtain⟨e1,he1⟩:∃e,e=(op == 49):=⟨_,rfl⟩;obtain⟨e2,he2⟩:∃e,e=(op == 50):=⟨_,rfl⟩;obtain⟨cs,he4⟩:∃e,e=(op == 48):=⟨_,rfl⟩;rw[<-he1,<-he2] at harm;rw[<-he4] at hR f10;subst harm
    have hcs:(cs=true->ks.length≠0)/\(cs=false->ks.length=a4P (btl s)):=by
      refine⟨λe=>?_,λe=>?_⟩
      · rw[e] at he4
        rw[d3I (h99 (by simpa using he4.symm))] at hkk;exact hkk
      · rw[e] at he4
        have:=h98 (by simpa using he4.symm);rw[d3G this] at hkk f9;omega
    have hsz:(btl s).length=s.size:=P3 s;clear h99 h98 hkk f9;obtain⟨E,hE⟩:∃E:Int,E=(a4P (btl s):Int):=⟨_,rfl⟩;obtain⟨in1,hv1⟩:∃in1:Int×Int->Prop,in1=λz=>∃k:Nat,z.1=(k:Int)/\k<=s.size/\z.2=(a4P ((btl s).take k):Int):=⟨_,rfl⟩
    have h10:in1 (0,0):=by rw[hv1];exact⟨0,rfl,d4o _,rfl⟩
    obtain⟨in2,hv2⟩:∃in2:Int->Prop,in2=λz=>∃k:Nat,z=(k:Int)/\k<=ks.length/\1<=k/\rtK GA true false (ks.drop k)=true:=⟨_,rfl⟩
    obtain⟨in3,hv3⟩:∃in3:Int->Prop,in3=λz=>∃k:Nat,z=(k:Int)/\k<=ks.length/\(∃f,rtK GA false f (ks.drop k)=true):=⟨_,rfl⟩
    refine Q5 Tryz.func7 rfl ?_;intro qa qb qc _ _ _ _ qi _ qk _ qm _ qp _ _ qu qv _ _ _ _ va vc;intros;rename_i hA;obtain⟨e1',e2',e3',e4',e5',e6',e7',e8',e9'⟩:=m6 hA;obtain⟨r1,r2,r3,r4⟩:=B3 hA;obtain⟨s1,s2,s3,s4,s5,s6,-⟩:=G1 hA;replace s5:qu s=((s.size:Nat):Int):=s5 s;have q0:=eb hA he1.symm;have q1:=eb hA he2.symm;have q3:=eb hA he4.symm;have q4:qm (qp s) (qp ⟨⟨[]⟩⟩)=false:=by rw[s1,s3,s3,ByteArray.toList_eq,ByteArray.toList_eq];exact f11
    have q5:qm (qp s) (qp ⟨⟨[99]⟩⟩)=cs:=by rw[s1,s3,s3,ByteArray.toList_eq,ByteArray.toList_eq];exact f10
    have hlen:∀z,qk (va K) z=((ks.length:Int) == z):=λz=>by rw[e9',r1,hl]
    have hr1:∀z,in1 z->(qi z.1 (qu s)=false/\z.2=E)\/(qi z.1 (qu s)=true/\∃(b:Int) (eb:Bool) (z1 w1:Int),qv s z.1=some b/\qk b 101=eb/\qa .i64 (qb z.1 1)=z1/\(if eb=true then qa .i64 (qb z.2 1)=w1 else z.2=w1)/\in1 (z1,w1)/\s.size - z1.toNat<s.size - z.1.toNat):=λz hz=>by
      rw[hv1] at hz;obtain⟨k,hz,hk,hw⟩:=hz;have hlt:qi z.1 (qu s)=decide (k<s.size):=by rw[e7',s5,hz];exact d3X.2 (by omega)
      by_cases h9:k<s.size
      · rw[d3S h9] at hlt
        obtain⟨x,hx⟩:∃x,(btl s)[k]?=some x:=⟨_,d3H (by omega)⟩
        have hcn:a4P ((btl s).take (k+1))=a4P ((btl s).take k)+(if (x.toNat:Int) == 101 then 1 else 0):=by
          rw[d5D,hx,c3X];rfl
        have hcb:a4P ((btl s).take k)<=k:=by
          have:∀l:List UInt8,a4P l<=l.length:=λl=>by
            induction l with
            | nil=>exact d3Q _
            | cons x l ih=>rw[a4P,d3O];split <;> omega
          have:=this ((btl s).take k);rw[d4n] at this;omega
        refine .inr ⟨hlt,(x.toNat:Int),_,((k+1:Nat):Int),((a4P ((btl s).take (k+1)):Nat):Int),by rw[s6,hz];exact a5b hx,e9' _ _,by rw[e1',e2',hz,IntWalk.i64_in _ (by omega)];omega,?_,?_,by rw[hz];omega⟩
        · rw[hcn]
          cases hc:((x.toNat:Int) == 101)
          · rw[d3G (by decide),d3G (by decide),hw];omega
          · rw[d3I rfl,d3I rfl,e1',e2',hw,IntWalk.i64_in _ (by omega)];omega
        · rw[hv1]
          exact⟨k+1,rfl,h9,rfl⟩
      · rw[d3P h9] at hlt
        refine .inl ⟨hlt,?_⟩;rw[hw,hE,d4z (by omega)]
    have hkid:∀(k:Nat) (f cs:Bool),k<ks.length->rtK GA cs f (ks.drop k)=true->∃(op':Int) (nm' ar':ByteArray) (n':Int) (b':Bool) (y0 y1 y2 y3:D) (K':List (List D)),vc K (k:Int)=some [.sc (.int .u8 op'),.sc (.string nm'),.sc (.string ar'),.sc (.int .i64 n'),.sc (.bool b'),y0,y1,y2,y3,.sl 10 K']/\o8 7 [.ag [.sc (.int .u8 op'),.sc (.string nm'),.sc (.string ar'),.sc (.int .i64 n'),.sc (.bool b'),y0,y1,y2,y3,.sl 10 K'],.one (.sc (.bool (cs && !f)))] [.one (.sc (.bool true))]/\rtK GA cs false (ks.drop (k+1))=true/\((cs && !f)=true->(op' == 50)=true->k+1=ks.length):=λk f cs h9 hE=>by
      obtain⟨xk,hx⟩:∃x,ks[k]?=some x:=⟨_,d3H h9⟩;have g5:=hget k xk hx;rw[hst k xk hx,rtK,d3N,d3N] at hE;obtain⟨f1,f2,f3⟩:=hE;have c0:=hcp xk (d3U hx) _ f1;have g5:vc K (k:Int)=some (cM xk):=by rw[r2];exact g5
      obtain⟨op',nm',ar',n',b',a',ks'⟩:=xk;obtain⟨y0,y1,y2,y3,hyy⟩:=m8 a';rw[cM,hyy] at c0 g5;refine⟨op',nm',ar',n',b',y0,y1,y2,y3,rM ks',g5,c0,f3,λhb h50=>?_⟩;rw[hb] at f2;rw[show opM (.mk op' nm' ar' n' b' a' ks')=op' from rfl] at f2
      have:(ks.drop (k+1)).isEmpty=true:=by
        rw[bne,h50] at f2;revert f2;cases (ks.drop (k+1)).isEmpty <;> simp
      rw[d6g,List.drop_eq_nil_iff] at this;omega
    clear hcp hst hget hK
    have key:(e1=true/\e2=false/\cs=false)\/(e1=false/\e2=true/\cs=false)\/(e1=false/\e2=false/\cs=true)\/(e1=false/\e2=false/\cs=false):=by
      rw[he1,he2,he4];simp only[d4H,d4x];omega
    rcases key with⟨rfl,rfl,rfl⟩|⟨rfl,rfl,rfl⟩|⟨rfl,rfl,rfl⟩|⟨rfl,rfl,rfl⟩
    all_goals
      try cbv;refine gr ?_;try simp only[nc] at *
      refine n9 hA (γ:=Int×Int) (λz=>[(7,vi .i64 z.1),(6,vi .i64 z.2)]) (λx=>[]) in1 (λz=>s.size - z.1.toNat) (0,0) h10 ?_ ?_
      · cbv
      · intro z hinv
        obtain⟨z,w⟩:=z;cbv;refine gn ?_;try simp only[nc] at *
        obtain⟨hlt,hw⟩|⟨hlt,b',eb',z1,w1,g1,q6,u1,u2,hi,hm⟩:=hr1 (z,w) hinv
        · replace hlt:qi z (qu s)=false:=hlt
          obtain rfl:w=E:=hw;rw[hlt];clear hr1 hinv hv1 k0 k1 h10;have hcs1:=hcs.1;have hcs2:=hcs.2;clear hcs
          first
            | (have h0:=hcs2 (by simp)
               have in30:in3 0:=by
                 rw[hv3];exact⟨0,rfl,d4o _,true,hR⟩
               have t0:qk (va K) w=true:=by rw[hlen,hE,h0];exact d4G _
               try cbv;refine gr ?_;try simp only[nc] at *
               refine n9 hA (γ:=Int) (λz=>[(9,vi .i64 z)]) (λx=>[]) in3 (λz=>ks.length - z.toNat) 0 in30 ?_ ?_
               · cbv
               · intro z hinv
                 cbv;refine gn ?_;try simp only[nc] at *
                 rw[hv3] at hinv;obtain⟨k,hz,hk,f,hE'⟩:=hinv;have hlt:qi z w=decide (k<ks.length):=by rw[e7',hE,hz];exact d3X.2 (by omega)
                 by_cases h9:k<ks.length
                 · rw[d3S h9] at hlt
                   obtain⟨op',nm',ar',n',b',y0,y1,y2,y3,K',g5,c0,h3,-⟩:=hkid k f false h9 hE';rw[<-hz] at g5;rw[d56] at c0;have u1:qa .i64 (qb z 1)=((k+1:Nat):Int):=by rw[e1',e2',hz,IntWalk.i64_in _ (by omega)];omega
                   have hm:ks.length - ((k+1:Nat):Int).toNat<ks.length - z.toNat:=by rw[hz];omega
                   have hi:in3 ((k+1:Nat):Int):=by
                     rw[hv3];exact⟨k+1,rfl,h9,false,h3⟩
                   generalize ((k+1:Nat):Int)=z1 at *;clear hkid h3 hE' hv2 hv3;rw[hlt]
                   try cbv;refine gr ?_;try simp only[nc] at *
                   refine⟨z1,hi,hm,?_⟩;cbv
                 · rw[d3P h9] at hlt
                   rw[hlt]
                   cbv;exact fr)
            | (have h0:=hcs1 (by simp)
               have in20:in2 1:=by
                 rw[hv2];obtain⟨_,_,_,_,_,_,_,_,_,_,_,_,h3,_⟩:=hkid 0 true true (by omega) hR;exact⟨1,rfl,by omega,d3Q _,h3⟩
               obtain⟨op',nm',ar',n',b',y0,y1,y2,y3,K',g5,c0,-,-⟩:=hkid 0 true true (by omega) hR;have g5:vc K 0=_:=g5;rw[show (true && !true)=false from rfl] at c0;have t0:qk (va K) 0=false:=by rw[hlen];exact d3T (by omega)
               try cbv;refine gr ?_;try simp only[nc] at *
               refine n9 hA (γ:=Int) (λz=>[(8,vi .i64 z)]) (λx=>[]) in2 (λz=>ks.length - z.toNat) 1 in20 ?_ ?_
               · cbv
               · intro z hinv
                 cbv;refine gn ?_;try simp only[nc] at *
                 rw[hv2] at hinv;obtain⟨k,hz,hk,h1k,hE'⟩:=hinv;have hlt:qi z (va K)=decide (k<ks.length):=by rw[e7',r1,hl,hz];exact d3X.2 (by omega)
                 by_cases h9:k<ks.length
                 · rw[d3S h9] at hlt
                   obtain⟨op',nm',ar',n',b',y0,y1,y2,y3,K',g5,c0,h3,h50⟩:=hkid k false true h9 hE';rw[<-hz] at g5;rw[show (true && !false)=true from rfl] at c0 h50;have u1:qa .i64 (qb z 1)=((k+1:Nat):Int):=by rw[e1',e2',hz,IntWalk.i64_in _ (by omega)];omega
                   have hm:ks.length - ((k+1:Nat):Int).toNat<ks.length - z.toNat:=by rw[hz];omega
                   have hi:in2 ((k+1:Nat):Int):=by
                     rw[hv2];exact⟨k+1,rfl,h9,by omega,h3⟩
                   have hlast:(op' == 50)=true->qi z (qa .i64 (qc (va K) 1))=false:=λe=>by
                     have:=h50 rfl e;rw[e1',e3',r1,hl,e7',hz,IntWalk.i64_in _ (by omega)];exact d3P (by omega)
                   obtain⟨e5,he5⟩:∃e,e=(op' == 50):=⟨_,rfl⟩;have q7:=eb hA he5.symm;rw[<-he5] at hlast;generalize ((k+1:Nat):Int)=z1 at *;clear hkid h50 h3 hE' hv2 hv3;rw[hlt];cases e5
                   · try cbv;refine gr ?_;try simp only[nc] at *
                     refine⟨z1,hi,hm,?_⟩;cbv
                   · have q8:=hlast rfl
                     try cbv;refine gr ?_;try simp only[nc] at *
                     refine⟨z1,hi,hm,?_⟩;cbv
                 · rw[d3P h9] at hlt
                   rw[hlt]
                   cbv;exact fr)
        · replace hlt:qi z (qu s)=true:=hlt
          rw[hlt];clear hr1 hkid hcs;cases eb'
          · obtain rfl:w=w1:=u2
            try cbv;refine gr ?_;try simp only[nc] at *
            refine⟨(z1,w),hi,hm,?_⟩;cbv
          · replace u2:qa .i64 (qb w 1)=w1:=u2
            try cbv;refine gr ?_;try simp only[nc] at *
            refine⟨(z1,w1),hi,hm,?_⟩;cbv
end Go.Proofs.YtdjnoafijjepcaaGreat.Vm
end
