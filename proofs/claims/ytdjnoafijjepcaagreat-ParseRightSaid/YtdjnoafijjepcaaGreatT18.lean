/- Part 18 of the proof. Conditions: none. -/
import Derived.Test.YtdjnoafijjepcaaGreatT4
import Derived.Test.YtdjnoafijjepcaaGreatT17
import Derived.Test.YtdjnoafijjepcaaGreatT0
set_option linter.all false
set_option linter.unusedVariables false
set_option linter.unusedSimpArgs false
section
namespace Go.Proofs.YtdjnoafijjepcaaGreat.Vm
open Go.RowKit
set_option maxRecDepth 100000
set_option maxHeartbeats 4000000
def SmT:Tm->Prop
 | .mk _ nm ar _ _ a _=>Sm a/\nm.size<=1048576/\ar.size<=1048576
def GA (a:Ty):Bool:=G2 a 116 && a2P a
theorem c9M {G:Ty->Bool} {t:Tm} (h:rtM G true t=true):opM t=49\/opM t=50:=by
 obtain⟨op,nm,ar,n,b,a,ks⟩:=t;rw[rtM,d3N] at h;have h1:=h.1;unfold ndB at h1
 split at h1
 ·cases h1
 ·rw[d3N] at h1;have h2:=h1.1;show op=49\/op=50
  by_cases h3:op=49
  ·exact .inl h3
  ·by_cases h4:op=50
   ·exact .inr h4
   ·rw[d3T h3,d3T h4] at h2;cases h2
theorem c3P {G:Ty->Bool} {cs:Bool} {x:Tm} {l:List Tm} {f:Bool}:rtK G cs f (x::l)=(!((cs && !f) && !(opM x == 49 || (opM x == 50 && l.isEmpty))) && (rtM G (cs && !f) x && rtK G cs false l)):=by
 rw[rtK];cases hc:(cs && !f)
 ·simp
 ·cases hr:rtM G true x
  ·simp
  ·rcases c9M hr with h|h
   ·rw[h];rfl
   ·rw[h];cases l <;> rfl
theorem c3Q {op:Int} {x y:Bool} {c v:Nat} (h:shM op=some (x,y,c,v)):v<=100/\c<=99:=by
 unfold shM at h
 by_cases h0:op=32
 ·rw[d3I h0] at h;cases h;omega
 rw[d3G h0] at h
 by_cases h1:op=33\/op=34\/op=41
 ·rw[d3I h1] at h;cases h;omega
 rw[d3G h1] at h
 by_cases h2:op=35
 ·rw[d3I h2] at h;cases h;omega
 rw[d3G h2] at h
 by_cases h3:op=36
 ·rw[d3I h3] at h;cases h;omega
 rw[d3G h3] at h
 by_cases h4:op=37
 ·rw[d3I h4] at h;cases h;omega
 rw[d3G h4] at h
 by_cases h5:op=38\/op=42\/op=45
 ·rw[d3I h5] at h;cases h;omega
 rw[d3G h5] at h
 by_cases h6:op=39
 ·rw[d3I h6] at h;cases h;omega
 rw[d3G h6] at h
 by_cases h7:op=40
 ·rw[d3I h7] at h;cases h;omega
 rw[d3G h7] at h
 by_cases c0:op=43\/op=44\/op=46\/op=47
 ·rw[d3I c0] at h;cases h;omega
 rw[d3G c0] at h
 by_cases c1:op=48
 ·rw[d3I c1] at h;cases h;omega
 rw[d3G c1] at h
 by_cases h10:op=49
 ·rw[d3I h10] at h;cases h;omega
 rw[d3G h10] at h
 by_cases h11:op=50
 ·rw[d3I h11] at h;cases h;omega
 rw[d3G h11] at h
 by_cases h12:op=51
 ·rw[d3I h12] at h;cases h;omega
 rw[d3G h12] at h;cases h
theorem c3R {op:Int} {x y:Bool} {c v:Nat} (h:shM op=some (x,y,c,v)):(op=48->c=99)/\(op≠48->c≠99):=by
 unfold shM at h
 by_cases h0:op=32
 ·rw[d3I h0] at h;cases h;omega
 rw[d3G h0] at h
 by_cases h1:op=33\/op=34\/op=41
 ·rw[d3I h1] at h;cases h;omega
 rw[d3G h1] at h
 by_cases h2:op=35
 ·rw[d3I h2] at h;cases h;omega
 rw[d3G h2] at h
 by_cases h3:op=36
 ·rw[d3I h3] at h;cases h;omega
 rw[d3G h3] at h
 by_cases h4:op=37
 ·rw[d3I h4] at h;cases h;omega
 rw[d3G h4] at h
 by_cases h5:op=38\/op=42\/op=45
 ·rw[d3I h5] at h;cases h;omega
 rw[d3G h5] at h
 by_cases h6:op=39
 ·rw[d3I h6] at h;cases h;omega
 rw[d3G h6] at h
 by_cases h7:op=40
 ·rw[d3I h7] at h;cases h;omega
 rw[d3G h7] at h
 by_cases c0:op=43\/op=44\/op=46\/op=47
 ·rw[d3I c0] at h;cases h;omega
 rw[d3G c0] at h
 by_cases c1:op=48
 ·rw[d3I c1] at h;cases h;omega
 rw[d3G c1] at h
 by_cases h10:op=49
 ·rw[d3I h10] at h;cases h;omega
 rw[d3G h10] at h
 by_cases h11:op=50
 ·rw[d3I h11] at h;cases h;omega
 rw[d3G h11] at h
 by_cases h12:op=51
 ·rw[d3I h12] at h;cases h;omega
 rw[d3G h12] at h;cases h
theorem c3S:∀t:Tm,(m7 t).length<=1048576->(∀x∈m7 t,SmT x)->∀arms:Bool,rtM GA arms t=true->o8 17 [.ag (cM t),.one (.sc (.bool arms))] [.one (.sc (.bool true))]:=by
 intro t
 induction t using Tm.ind with
 | h op nm ar n b a ks ih =>
  intro hN hS arms hT;have hself:SmT (.mk op nm ar n b a ks):=hS _ (by rw[m7];exact d3L ..);obtain⟨hSa,hSn,hSr⟩:=hself
  have hkn:∀k∈ks,(m7 k).length<=1048576/\∀x∈m7 k,SmT x:=λk hk=>by
   have hsub:∀x∈m7 k,x∈m7 (.mk op nm ar n b a ks):=λx hx=>by
    rw[m7,P0];exact d3M _ (d40.2 ⟨k,hk,hx⟩)
   refine⟨?_,λx hx=>hS x (hsub x hx)⟩;obtain⟨i,hi⟩:=d42.1 hk;have h1:(m7 (.mk op nm ar n b a ks)).length=1+(ks.flatMap m7).length:=by rw[m7,P0,d3O];omega
   have h2:((ks.take (i+1)).flatMap m7).length=((ks.take i).flatMap m7).length+(m7 k).length:=by
    rw[d6u,hi,d4Q,d3K]
    simp
   have h3:(ks.flatMap m7).length=((ks.take (i+1)).flatMap m7).length+((ks.drop (i+1)).flatMap m7).length:=by
    conv=>lhs;rw[<-d46 (i+1) ks,d4Q,d3K]
   omega
  have hkl:ks.length<=1048576:=by
   have h1:(m7 (.mk op nm ar n b a ks)).length=1+(ks.flatMap m7).length:=by rw[m7,P0,d3O];omega
   have:=a6Y m7 a5k ks;omega
  have hcp:=λk hk arms=>ih k hk (hkn k hk).1 (hkn k hk).2 arms
  have k0:=c3M op;have k1:=c3L op nm ar n b a ks;have hno:=λv hv=>c6J op nm ar n b a ks v hv hSa hSa.1 hSa.2
  have hn1:=λc=>b8G ar (by omega) c
  have hn2:=λc=>b8G nm (by omega) c
  have hsg:=c6G nm
  have hst:∀k x,ks[k]?=some x->ks.drop k=x::ks.drop (k+1):=λk x hx=>by
   obtain⟨hi,e⟩:=d3J.1 hx;rw[d4c hi,e]
  clear ih hN hS hkn;rw[rtM,d3N] at hT;obtain⟨hT,hR⟩:=hT;unfold ndB at hT;unfold shD at k0;obtain⟨a0,a1,a2,a3,haa⟩:=m8 a;rw[cM,haa] at k1 hno ⊢;obtain⟨K,hK⟩:∃K,K=rM ks:=⟨_,rfl⟩;rw[<-hK] at k1 hno ⊢;cases hs:shM op with
  | none =>
   rw[hs] at hT;cases hT
  | some q =>
   obtain⟨x,y,c,v⟩:=q;obtain⟨hv,hc⟩:=c3Q hs;obtain⟨h99,h98⟩:=c3R hs;rw[hs] at hT k0;dsimp only at hT k0;simp only[d3N] at hT;obtain⟨ha,hnb,hnt,hny,hnm,hkk⟩:=hT;have h2:=hno v hv;have h3:=hn1 y;rw[show (G2 a 116 && a2P a)=GA a from rfl,hnt] at h2;rw[hny] at h3;rw[hnb] at k1
   have h4:(op == 40)=true->o8 37 [.one (.sc (.string nm))] [.one (.sc (.bool true))]:=λe=>by
    rw[d3I (by simpa using e)] at hnm;rw[hnm] at hsg;exact hsg
   have h5:(op == 40)=false->o8 36 [.one (.sc (.string nm)),.one (.sc (.bool x))] [.one (.sc (.bool true))]:=λe=>by
    rw[d3G (by simpa using e)] at hnm;have:=hn2 x;rw[hnm] at this;exact this
   clear hno hn1 hn2 hs hnm hsg hnt hny hnb hSa hSn hSr;have hl:(K.length:Int)=(ks.length:Int):=by rw[hK,a5Z]
   have hget:∀(k:Nat) x,ks[k]?=some x->j5.get K (k:Int)=some (cM x):=λk x hx=>by
    show (if (0:Int)<=(k:Int) then K[((k:Int)).toNat]? else none)=_;rw[d3I (by omega),show ((k:Int)).toNat=k by omega,hK];exact b0G hx
   obtain⟨cz,hcz⟩:∃cz:Int,cz=(if c=99 then -1 else (c:Int)):=⟨_,rfl⟩;rw[<-hcz] at k0
   have hq:(op=48->cz=-1/\ks.length≠0)/\(op≠48->cz=(ks.length:Int)):=by
    refine⟨λe=>?_,λe=>?_⟩
    ·have c1:=h99 e;rw[d3I c1] at hkk hcz;have:=d4u hkk;exact⟨hcz,by omega⟩
    ·have c1:=h98 e;rw[d3G c1] at hkk hcz;rw[d4H] at hkk;rw[hcz,hkk]
   clear hkk hcz h99 h98;obtain⟨e1,he1⟩:∃e,e=(op == 49):=⟨_,rfl⟩;obtain⟨e2,he2⟩:∃e,e=(op == 50):=⟨_,rfl⟩;obtain⟨e3,he3⟩:∃e,e=(op == 40):=⟨_,rfl⟩;obtain⟨cs,he4⟩:∃e,e=(op == 48):=⟨_,rfl⟩
   have key:(e1=true/\e2=false/\e3=false/\cs=false)\/(e1=false/\e2=true/\e3=false/\cs=false)\/(e1=false/\e2=false/\e3=true/\cs=false)\/(e1=false/\e2=false/\e3=false/\cs=true)\/(e1=false/\e2=false/\e3=false/\cs=false):=by
    rw[he1,he2,he3,he4];simp only[d4H,d4x];omega
   rw[<-he1,<-he2] at ha;rw[<-he3] at h4 h5;rw[<-he4] at hR;obtain⟨N,hNl⟩:∃N:Int,N=(ks.length:Int):=⟨_,rfl⟩;rw[<-hNl] at hl;obtain⟨vz,hvz⟩:∃vz:Int,vz=(v:Int):=⟨_,rfl⟩;rw[<-hvz] at k0 h2;have ha:arms=(e1 || e2):=by simpa using ha
   subst ha;obtain⟨inv,hv⟩:∃inv:Int->Prop,inv=λz=>∃k:Nat,z=(k:Int)/\k<=ks.length/\rtK GA cs (k == 0) (ks.drop k)=true:=⟨_,rfl⟩
   have hi0:inv 0:=by rw[hv];exact⟨0,rfl,d4o _,hR⟩
   refine Q5 Tryz.func17 rfl ?_;intro qa qb qc _ _ _ _ qi qj qk _ _ _ _ _ _ _ _ _ _ _ _ va vc;intros;rename_i hA;obtain⟨e1',e2',e3',e4',e5',e6',e7',e8',e9'⟩:=m6 hA;obtain⟨r1,r2,r3,r4⟩:=B3 hA;have q0:=eb hA he1.symm;have q1:=eb hA he2.symm;have q2:=eb hA he3.symm;have q3:=eb hA he4.symm;have hlen:∀z,qk (va K) z=(N == z):=λz=>by rw[e9',r1,hl]
   have hround:∀z,inv z->∃k:Nat,z=(k:Int)/\(qi z (va K)=false\/qi z (va K)=true/\∃(op':Int) (nm' ar':ByteArray) (n':Int) (b':Bool) (y0 y1 y2 y3:D) (K':List (List D)) (ls:Bool) (z1:Int) (nz:Bool),vc K z=some [.sc (.int .u8 op'),.sc (.string nm'),.sc (.string ar'),.sc (.int .i64 n'),.sc (.bool b'),y0,y1,y2,y3,.sl 10 K']/\qa .i64 (qb z 1)=z1/\inv z1/\ks.length - z1.toNat<ks.length - z.toNat/\qi 0 z=nz/\qk z (qa .i64 (qc (va K) 1))=ls/\o8 17 [.ag [.sc (.int .u8 op'),.sc (.string nm'),.sc (.string ar'),.sc (.int .i64 n'),.sc (.bool b'),y0,y1,y2,y3,.sl 10 K'],.one (.sc (.bool (cs && nz)))] [.one (.sc (.bool true))]/\((cs && nz)=true->o8 38 [.one (.sc (.int .u8 op')),.one (.sc (.bool ls))] [.one (.sc (.bool true))])):=λz hinv=>by
    rw[hv] at hinv;obtain⟨k,hz,hk,hE⟩:=hinv;have hlt:qi z (va K)=decide (k<ks.length):=by rw[e7',r1,hl,hNl,hz];exact d3X.2 (by omega)
    refine⟨k,hz,?_⟩
    by_cases c1:k<ks.length
    ·rw[d3S c1] at hlt;obtain⟨xk,hx⟩:∃x,ks[k]?=some x:=⟨_,d3H c1⟩;have g5:=hget k xk hx;rw[hst k xk hx,c3P,d3N,d3N] at hE;obtain⟨f1,f2,f3⟩:=hE;have c0:=hcp xk (d3U hx) _ f2;have g5:vc K z=some (cM xk):=by rw[r2,hz];exact g5
     obtain⟨op',nm',ar',n',b',a',ks'⟩:=xk;obtain⟨y0,y1,y2,y3,hyy⟩:=m8 a';rw[cM,hyy] at c0 g5;refine .inr ⟨hlt,op',nm',ar',n',b',y0,y1,y2,y3,rM ks',(ks.drop (k+1)).isEmpty,((k+1:Nat):Int),!(k == 0),g5,by rw[e1',e2',hz,IntWalk.i64_in _ (by omega)];omega,?_,by rw[hz];omega,?_,?_,c0,λhb=>?_⟩
     ·rw[hv];exact⟨k+1,rfl,c1,f3⟩
     ·rw[e7',hz]
      by_cases h0:k=0
      ·rw[h0];rfl
      ·rw[d3T h0];exact d3S (by omega)
     ·rw[e1',e3',r1,hl,hNl,e9',hz,IntWalk.i64_in _ (by omega),d5r,d4H,d6g,List.drop_eq_nil_iff];omega
     ·have h9a:=c9H op' (ks.drop (k+1)).isEmpty;rw[hb] at f1;rw[show opM (.mk op' nm' ar' n' b' a' ks')=op' from rfl] at f1;rw[show (op' == 49 || (op' == 50 && (ks.drop (k+1)).isEmpty))=true by revert f1;cases (op' == 49 || (op' == 50 && (ks.drop (k+1)).isEmpty)) <;> simp] at h9a;exact h9a
    ·rw[d3P c1] at hlt;exact .inl hlt
   clear hcp hst hget hv hK
   have g0:cs=false->qj 0 cz=true/\qk (va K) cz=true/\qi cz 0=false:=λe=>by
    rw[e] at he4;have:=hq.2 (by simpa using he4.symm);rw[hlen,e8',e7',this,hNl];exact⟨d3S (by omega),by simp,d3P (by omega)⟩
   have g1:cs=true->qj 0 cz=false/\qi cz 0=true/\qk (va K) 0=false:=λe=>by
    rw[e] at he4;have:=hq.1 (by simpa using he4.symm);rw[hlen,e8',e7',this.1,hNl];exact⟨rfl,rfl,d3T (by omega)⟩
   clear hq;generalize hmu:ks.length=mu at *
   rcases key with⟨rfl,rfl,rfl,rfl⟩|⟨rfl,rfl,rfl,rfl⟩|⟨rfl,rfl,rfl,rfl⟩|⟨rfl,rfl,rfl,rfl⟩|⟨rfl,rfl,rfl,rfl⟩
   all_goals first|replace h4:=h4 rfl|replace h4:=h5 rfl
   all_goals first|obtain⟨t0,t1,t2⟩:=g0 rfl|obtain⟨t0,t1,t2⟩:=g1 rfl
   all_goals clear h5 g0 g1
   all_goals
    try cbv;refine gr ?_;try simp only[nc] at *
    refine n9 hA (γ:=Int) (λz=>[(88,vi .i64 z),(10,.jk),(13,.jk)]) (λx=>[]) inv (λz=>mu - z.toNat) 0 hi0 ?_ ?_
    ·cbv
    ·intro z hinv;cbv;refine gn ?_;try simp only[nc] at *
     obtain⟨k,hz,hlt|⟨hlt,op',nm',ar',n',b',y0,y1,y2,y3,K',ls,z1,nz,g5,u1,hi,hm,g4,g6,c0,c1⟩⟩:=hround z hinv
     ·rw[hlt]
      try cbv;exact fr
     ·clear hround;rw[hlt];cases nz
      ·replace c0:o8 17 [.ag [.sc (.int .u8 op'),.sc (.string nm'),.sc (.string ar'),.sc (.int .i64 n'),.sc (.bool b'),y0,y1,y2,y3,.sl 10 K'],.one (.sc (.bool false))] [.one (.sc (.bool true))]:=by first|exact c0|(rw[d5a] at c0;exact c0)
       clear c1
       try cbv;refine gr ?_;try simp only[nc] at *
       refine⟨z1,hi,hm,?_⟩;cbv
      ·first|replace c1:=c1 rfl|clear c1
       rw[Bool.and_true] at c0
       try cbv;refine gr ?_;try simp only[nc] at *
       refine⟨z1,hi,hm,?_⟩;cbv
end Go.Proofs.YtdjnoafijjepcaaGreat.Vm
end
