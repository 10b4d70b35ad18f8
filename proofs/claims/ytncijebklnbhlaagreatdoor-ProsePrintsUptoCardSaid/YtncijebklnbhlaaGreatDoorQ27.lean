/- Part 27 of the proof. Conditions: none. -/
import Derived.Test.YtncijebklnbhlaaGreatDoorQ26
set_option linter.all false
set_option linter.unusedVariables false
set_option linter.unusedSimpArgs false
section
namespace Go.Proofs.YtncijebklnbhlaaGreatDoor.Vm
open Go.RowKit
set_option maxRecDepth 100000
set_option maxHeartbeats 4000000
def OpR:Tm->Prop
 | .mk op _ _ _ _ _ _=>0<=op/\op<=255
theorem b7V {op:Int} (h:shM op=none):op<32\/51<op:=by
 unfold shM at h
 by_cases h0:op=32
 ·rw[if_pos h0] at h;cases h
 rw[if_neg h0] at h
 by_cases h1:op=33\/op=34\/op=41
 ·rw[if_pos h1] at h;cases h
 rw[if_neg h1] at h
 by_cases h2:op=35
 ·rw[if_pos h2] at h;cases h
 rw[if_neg h2] at h
 by_cases h3:op=36
 ·rw[if_pos h3] at h;cases h
 rw[if_neg h3] at h
 by_cases h4:op=37
 ·rw[if_pos h4] at h;cases h
 rw[if_neg h4] at h
 by_cases h5:op=38\/op=42\/op=45
 ·rw[if_pos h5] at h;cases h
 rw[if_neg h5] at h
 by_cases h6:op=39
 ·rw[if_pos h6] at h;cases h
 rw[if_neg h6] at h
 by_cases h7:op=40
 ·rw[if_pos h7] at h;cases h
 rw[if_neg h7] at h
 by_cases h8:op=43\/op=44\/op=46\/op=47
 ·rw[if_pos h8] at h;cases h
 rw[if_neg h8] at h
 by_cases h9:op=48
 ·rw[if_pos h9] at h;cases h
 rw[if_neg h9] at h
 by_cases h10:op=49
 ·rw[if_pos h10] at h;cases h
 rw[if_neg h10] at h
 by_cases h11:op=50
 ·rw[if_pos h11] at h;cases h
 rw[if_neg h11] at h
 by_cases h12:op=51
 ·rw[if_pos h12] at h;cases h
 rw[if_neg h12] at h;omega
theorem b3Y:∀t:Tm,(l4 t).length<=1048576->(∀x∈l4 t,SmT x/\OpR x)->∀arms:Bool,j5 7 [.ag (cM t),.one (.sc (.bool arms))] [.one (.sc (.bool (rtM GA arms t)))]:=by
 intro t
 induction t using Tm.ind with
 | h op nm ar n b a ks ih =>
  intro hN hS arms;have hself:SmT (.mk op nm ar n b a ks)/\OpR (.mk op nm ar n b a ks):=hS _ (by rw[l4];exact List.mem_cons_self ..)
  have hkn:∀k∈ks,(l4 k).length<=1048576/\∀x∈l4 k,SmT x/\OpR x:=λk hk=>by
   have hsub:∀x∈l4 k,x∈l4 (.mk op nm ar n b a ks):=λx hx=>by
    rw[l4,I3];exact List.mem_cons_of_mem _ (List.mem_flatMap.2 ⟨k,hk,hx⟩)
   refine⟨?_,λx hx=>hS x (hsub x hx)⟩;obtain⟨i,hi⟩:=List.mem_iff_getElem?.1 hk;have h1:(l4 (.mk op nm ar n b a ks)).length=1+(ks.flatMap l4).length:=by rw[l4,I3,List.length_cons];omega
   have h2:((ks.take (i+1)).flatMap l4).length=((ks.take i).flatMap l4).length+(l4 k).length:=by
    rw[List.take_succ,hi,List.flatMap_append,List.length_append]
    simp
   have h3:(ks.flatMap l4).length=((ks.take (i+1)).flatMap l4).length+((ks.drop (i+1)).flatMap l4).length:=by
    conv=>lhs;rw[<-List.take_append_drop (i+1) ks,List.flatMap_append,List.length_append]
   omega
  have hkl:ks.length<=1048576:=by
   have h1:(l4 (.mk op nm ar n b a ks)).length=1+(ks.flatMap l4).length:=by rw[l4,I3,List.length_cons];omega
   have:=a5w l4 r9 ks;omega
  have hcp:=λk hk arms=>ih k hk (hkn k hk).1 (hkn k hk).2 arms
  have hst:∀k x,ks[k]?=some x->ks.drop k=x::ks.drop (k+1):=λk x hx=>by
   obtain⟨hi,e⟩:=List.getElem?_eq_some_iff.1 hx;rw[List.drop_eq_getElem_cons hi,e]
  clear ih hN hS hkn;obtain⟨T,hT⟩:∃T,T=rtM GA arms (.mk op nm ar n b a ks):=⟨_,rfl⟩;rw[<-hT];rw[rtM] at hT;obtain⟨⟨hSa,hSn,hSr⟩,hor⟩:=hself;have hor:0<=op/\op<=255:=hor;cases hsh:shM op with
  | none =>
   have hT:T=false:=by rw[hT];unfold ndB;rw[hsh];rfl
   rw[hT];have k0:=b1T op hor (b7V hsh);obtain⟨a0,a1,a2,a3,haa⟩:=l6 a;rw[cM,haa];generalize rM ks=K at *;refine C2 Tryz.func7 rfl λqa qb qc qd qe qf qg qh qi qj qk ql qm qo qp qq qt qu qv qw qx qy qz va vc vd ve vf vg vh vj vk vl vm vn vo vp vq vr vt vu vv vw hA=>?_
   have q0:=esr (x:=⟨⟨[]⟩⟩) hA;cbv;exact fr
  | some q =>
  obtain⟨x,y,c,v⟩:=q;obtain⟨k,s,hk,hp,hf⟩:=c25 hsh;have hnd:=c1j (nm:=nm) (ar:=ar) (n:=n) (h:=b) (a:=a) hsh hf arms ks.length;obtain⟨f1,f2,f3,f4,f5,f6,f7,f8,f9,f10,f11,f12,f13⟩:=hf;have k0:=b3X op k s hk hp;have hh:=λc=>c1g s c (by omega)
  have g1:=hh 111;have g2:=hh 110;have g3:=hh 97;have g4:=hh 105;have g5:=hh 98;have g6:=hh 84;have g7:=hh 116;rw[f2] at g1;rw[f3] at g2;rw[f4] at g3;rw[f5] at g4;rw[f6] at g5;rw[f7] at g6;rw[f8] at g7;have hw:=a2e nm (by omega);have hv:=a2e ar (by omega);have hz:=b9S a;have hr:=b7i a hSa.1 hSa.2;have hV:=λh:x9 a 116=true=>b94 a hSa.1 (B9 (I9 h).1)
  obtain⟨a0,a1,a2,a3,haa⟩:=l6 a;rw[haa] at hz hr hV;have k1:=b7U (op:=op) (n:=n) (hs:=b) (k:=.sl 10 (rM ks)) g1 g2 g3 g4 g5 g6 g7 hw hv hz hr hV rfl;rw[hnd] at hT;clear hnd g1 g2 g3 g4 g5 g6 g7 hw hv hz hr hV hh;generalize ptB (op == 40) (x && !(op == 40)) y (op == 33) (op == 34) (v == 2) (v == 1) (a12.any λs=>s.data.toList == nm.data.toList) (r5 nm) (r5 ar) (nm.data.toList == []) (ar.data.toList == []) (decide (n<0)) (decide (0<n)) (n == 1) b (J7 a) (x9 a 116) (((rI (T8 a)).length:Int) == 0)=pb at *;obtain⟨h99,h98⟩:=b6e hsh;clear hSa hSn hSr f2 f3 f4 f5 f6 f7 f8 f12 f13 hsh hor;unfold c1i at k1;rw[cM,haa];obtain⟨K,hK⟩:∃K,K=rM ks:=⟨_,rfl⟩;rw[<-hK] at k1 ⊢;have hl:(K.length:Int)=(ks.length:Int):=by rw[hK,a2i]
  have hget:∀(k:Nat) x,ks[k]?=some x->j1.get K (k:Int)=some (cM x):=λk x hx=>by
   show (if (0:Int)<=(k:Int) then K[((k:Int)).toNat]? else none)=_;rw[if_pos (by omega),show ((k:Int)).toNat=k by omega,hK];exact B4 hx
  obtain⟨e1,he1⟩:∃e,e=(op == 49):=⟨_,rfl⟩;obtain⟨e2,he2⟩:∃e,e=(op == 50):=⟨_,rfl⟩;obtain⟨cs,he4⟩:∃e,e=(op == 48):=⟨_,rfl⟩;rw[<-he1,<-he2,<-he4] at hT;rw[<-he4] at f10;obtain⟨R,hR⟩:∃R,R=rtK GA cs true ks:=⟨_,rfl⟩;rw[<-hR] at hT
  have hkc:(if c=99 then decide (0<ks.length) else ks.length == c)=(if cs=true then !((ks.length:Int) == 0) else ((ks.length:Int) == (a2t (H3 s):Int))):=by
   by_cases h48:op=48
   ·rw[if_pos (h99 h48),he4,h48,if_pos (show ((48:Int) == 48)=true from rfl)]
    by_cases h0:ks.length=0
    ·rw[h0];rfl
    ·rw[decide_eq_true (by omega),beq_false_of_ne (by omega)];rfl
   ·rw[if_neg (h98 h48)] at f9 ⊢;rw[he4,beq_false_of_ne h48,if_neg (by decide),f9,Bool.eq_iff_iff,beq_iff_eq,beq_iff_eq];omega
  rw[hkc] at hT;clear hkc;have hsz:(H3 s).length=s.size:=B8 s;clear h99 h98 f9;obtain⟨E,hE⟩:∃E:Int,E=(a2t (H3 s):Int):=⟨_,rfl⟩;rw[<-hE] at hT;obtain⟨in1,hv1⟩:∃in1:Int×Int->Prop,in1=λz=>∃k:Nat,z.1=(k:Int)/\k<=s.size/\z.2=(a2t ((H3 s).take k):Int):=⟨_,rfl⟩
  have h10:in1 (0,0):=by rw[hv1];exact⟨0,rfl,Nat.zero_le _,rfl⟩
  obtain⟨in2,hv2⟩:∃in2:Int->Prop,in2=λz=>∃k:Nat,z=(k:Int)/\k<=ks.length/\1<=k/\rtK GA true false (ks.drop k)=R:=⟨_,rfl⟩
  obtain⟨in3,hv3⟩:∃in3:Int->Prop,in3=λz=>∃k:Nat,z=(k:Int)/\k<=ks.length/\(∃f,rtK GA false f (ks.drop k)=R):=⟨_,rfl⟩
  refine C2 Tryz.func7 rfl λqa qb qc qd qe qf qg qh qi qj qk ql qm qo qp qq qt qu qv qw qx qy qz va vc vd ve vf vg vh vj vk vl vm vn vo vp vq vr vt vu vv vw hA=>?_
  obtain⟨e1',e2',e3',e4',e5',e6',e7',e8',e9'⟩:=l7 hA;obtain⟨r1,r2,r3,r4⟩:=n8 hA;obtain⟨s1,s2,s3,s4,s5,s6,-⟩:=o8 hA;replace s5:qt s=((s.size:Nat):Int):=s5 s;have q0:=eb hA he1.symm;have q1:=eb hA he2.symm;have q3:=eb hA he4.symm;have q4:ql (qo s) (qo ⟨⟨[]⟩⟩)=false:=by rw[s1,s3,s3,ByteArray.toList_eq,ByteArray.toList_eq];exact f11
  have q5:ql (qo s) (qo ⟨⟨[99]⟩⟩)=cs:=by rw[s1,s3,s3,ByteArray.toList_eq,ByteArray.toList_eq];exact f10
  have hlen:∀z,qj (qz K) z=((ks.length:Int) == z):=λz=>by rw[e9',r1,hl]
  have hr1:∀z,in1 z->(qh z.1 (qt s)=false/\z.2=E)\/(qh z.1 (qt s)=true/\∃(b:Int) (eb:Bool) (z1 w1:Int),qu s z.1=some b/\qj b 101=eb/\qa .i64 (qb z.1 1)=z1/\(if eb=true then qa .i64 (qb z.2 1)=w1 else z.2=w1)/\in1 (z1,w1)/\s.size - z1.toNat<s.size - z.1.toNat):=λz hz=>by
   rw[hv1] at hz;obtain⟨k,hz,hk,hw⟩:=hz;have hlt:qh z.1 (qt s)=decide (k<s.size):=by rw[e7',s5,hz];exact decide_eq_decide.2 (by omega)
   by_cases h9:k<s.size
   ·rw[decide_eq_true h9] at hlt;obtain⟨x,hx⟩:∃x,(H3 s)[k]?=some x:=⟨_,List.getElem?_eq_getElem (by omega)⟩
    have hcn:a2t ((H3 s).take (k+1))=a2t ((H3 s).take k)+(if (x.toNat:Int) == 101 then 1 else 0):=by
     rw[List.take_add_one,hx,b6r];rfl
    have hcb:a2t ((H3 s).take k)<=k:=by
     have:∀l:List UInt8,a2t l<=l.length:=λl=>by
      induction l with
      | nil=>exact Nat.le_refl _
      | cons x l ih=>rw[a2t,List.length_cons];split <;> omega
     have:=this ((H3 s).take k);rw[List.length_take] at this;omega
    refine .inr ⟨hlt,(x.toNat:Int),_,((k+1:Nat):Int),((a2t ((H3 s).take (k+1)):Nat):Int),by rw[s6,hz];exact a3L hx,e9' _ _,by rw[e1',e2',hz,IntWalk.i64_in _ (by omega)];omega,?_,?_,by rw[hz];omega⟩
    ·rw[hcn];cases hc:((x.toNat:Int) == 101)
     ·rw[if_neg (by decide),if_neg (by decide),hw];omega
     ·rw[if_pos rfl,if_pos rfl,e1',e2',hw,IntWalk.i64_in _ (by omega)];omega
    ·rw[hv1];exact⟨k+1,rfl,h9,rfl⟩
   ·rw[decide_eq_false h9] at hlt;refine .inl ⟨hlt,?_⟩;rw[hw,hE,List.take_of_length_le (by omega)]
  have hkid:∀(k:Nat) (f cs:Bool),k<ks.length->∃(op':Int) (nm' ar':ByteArray) (n':Int) (b':Bool) (y0 y1 y2 y3:D) (K':List (List D)) (rx:Bool),va K (k:Int)=some [.sc (.int .u8 op'),.sc (.string nm'),.sc (.string ar'),.sc (.int .i64 n'),.sc (.bool b'),y0,y1,y2,y3,.sl 10 K']/\j5 7 [.ag [.sc (.int .u8 op'),.sc (.string nm'),.sc (.string ar'),.sc (.int .i64 n'),.sc (.bool b'),y0,y1,y2,y3,.sl 10 K'],.one (.sc (.bool (cs && !f)))] [.one (.sc (.bool rx))]/\rtK GA cs f (ks.drop k)=(rx && ((!(cs && !f) || (!(op' == 50) || decide (k+1=ks.length))) && rtK GA cs false (ks.drop (k+1)))):=λk f cs h9=>by
   obtain⟨xk,hx⟩:∃x,ks[k]?=some x:=⟨_,List.getElem?_eq_getElem h9⟩;have gx:=hget k xk hx;have h8:=hcp xk (List.mem_of_getElem? hx) (cs && !f);have gx:va K (k:Int)=some (cM xk):=by rw[r2];exact gx
   rw[hst k xk hx,rtK]
   have hem:(ks.drop (k+1)).isEmpty=decide (k+1=ks.length):=by
    rw[Bool.eq_iff_iff,List.isEmpty_iff,List.drop_eq_nil_iff,decide_eq_true_eq];omega
   rw[hem];obtain⟨op',nm',ar',n',b',a',ks'⟩:=xk;obtain⟨y0,y1,y2,y3,hyy⟩:=l6 a';rw[cM,hyy] at h8 gx;exact⟨op',nm',ar',n',b',y0,y1,y2,y3,rM ks',_,gx,h8,rfl⟩
  clear hcp hst hget hK
  have key:(e1=true/\e2=false/\cs=false)\/(e1=false/\e2=true/\cs=false)\/(e1=false/\e2=false/\cs=true)\/(e1=false/\e2=false/\cs=false):=by
   rw[he1,he2,he4];simp only[beq_iff_eq,beq_eq_false_iff_ne];omega
  have hag:(arms == (e1 || e2))=false\/arms=(e1 || e2):=by cases arms <;> cases e1 <;> cases e2 <;> simp
  rcases hag with hag|rfl
  ·have hT:T=false:=by rw[hT,hag];rfl
   rw[hT]
   rcases key with⟨rfl,rfl,rfl⟩|⟨rfl,rfl,rfl⟩|⟨rfl,rfl,rfl⟩|⟨rfl,rfl,rfl⟩
   all_goals cases arms
   all_goals first|(cases hag;done)|(cbv;exact fr)
  rw[beq_self_eq_true,Bool.true_and] at hT;cases pb
  ·have hT:T=false:=hT;rw[hT]
   rcases key with⟨rfl,rfl,rfl⟩|⟨rfl,rfl,rfl⟩|⟨rfl,rfl,rfl⟩|⟨rfl,rfl,rfl⟩
   all_goals
    cbv;exact fr
  rw[Bool.true_and] at hT;cbv
  refine jn (by
   intro hq
   rcases key with⟨rfl,rfl,rfl⟩|⟨rfl,rfl,rfl⟩|⟨rfl,rfl,rfl⟩|⟨rfl,rfl,rfl⟩
   all_goals
    iterate 4 (with_reducible apply j2 hA;cbv;repeat ((first|rw[q0]|rw[q1]|rw[q4]|refine j3 hA _ k0 rfl ?_|refine j3 hA _ k1 rfl ?_|refine j4 hA _ k0 ?_|refine j4 hA _ k1 ?_);cbv))
    refine a3Z hA [2,4,5,6] λF hF=>?_
    cbv;rw[hF]
    exact hq) ?_
  cbv
  repeat ((with_reducible apply j2 hA);cbv)
  refine o5 hA (γ:=Int×Int) (λz=>[(7,vi .i64 z.1),(6,vi .i64 z.2)]) (λx=>[]) in1 (λz=>s.size - z.1.toNat) (0,0) h10 ?_ ?_
  ·cbv
  ·intro z hinv;obtain⟨z,w⟩:=z;cbv;refine gn ?_;try simp only[nc] at *
   obtain⟨hlt,hw⟩|⟨hlt,b',eb',z1,w1,g1,q6,hz1,hw1,hi,hm⟩:=hr1 (z,w) hinv
   ·replace hlt:qh z (qt s)=false:=hlt;obtain rfl:w=E:=hw;rw[hlt];clear hr1 hinv hv1 k0 k1 h10 key;cases cs
    ·-- all its kids
     have hT':T=(((ks.length:Int) == w) && R):=by rw[hT,if_neg (by decide)]
     have t0:qj (qz K) w=((ks.length:Int) == w):=hlen w;cases hlw:((ks.length:Int) == w)
     ·rw[hlw] at hT' t0;have hT':T=false:=hT';rw[hT']
      try cbv;exact fr
     ·rw[hlw,Bool.true_and] at hT';rw[hlw] at t0;have h0:(ks.length:Int)=w:=by simpa using hlw
      have in30:in3 0:=by
       rw[hv3];exact⟨0,rfl,Nat.zero_le _,true,hR.symm⟩
      rw[hT']
      try cbv;refine gr ?_;try simp only[nc] at *
      refine o5 hA (γ:=Int) (λz=>[(9,vi .i64 z)]) (λx=>[]) in3 (λz=>ks.length - z.toNat) 0 in30 ?_ ?_
      ·cbv
      ·intro z hinv;cbv;refine gn ?_;try simp only[nc] at *
       rw[hv3] at hinv;obtain⟨k,hz,hk,f,hE'⟩:=hinv;have hlt:qh z w=decide (k<ks.length):=by rw[e7',<-h0,hz];exact decide_eq_decide.2 (by omega)
       by_cases h9:k<ks.length
       ·rw[decide_eq_true h9] at hlt;obtain⟨op',nm',ar',n',b',y0,y1,y2,y3,K',rx,g5,c0,h3⟩:=hkid k f false h9;rw[<-hz] at g5;rw[hE',Bool.false_and] at h3;rw[Bool.false_and] at c0;have u1:qa .i64 (qb z 1)=((k+1:Nat):Int):=by rw[e1',e2',hz,IntWalk.i64_in _ (by omega)];omega
        have hm:ks.length - ((k+1:Nat):Int).toNat<ks.length - z.toNat:=by rw[hz];omega
        have hi:rtK GA false false (ks.drop (k+1))=R->in3 ((k+1:Nat):Int):=λe=>by
         rw[hv3];exact⟨k+1,rfl,h9,false,e⟩
        generalize ((k+1:Nat):Int)=z1 at *;generalize rtK GA false false (ks.drop (k+1))=rr at *;clear hkid hE' hv2 hv3;rw[hlt];cases rx
        ·have hR':R=false:=h3;rw[hR']
         try cbv;exact fr
        ·have hR':rr=R:=by rw[h3];simp
         try cbv;refine gr ?_;try simp only[nc] at *
         refine⟨z1,hi hR',hm,?_⟩;cbv
       ·rw[decide_eq_false h9] at hlt;have hR':R=true:=by rw[<-hE',List.drop_of_length_le (by omega),rtK]
        rw[hlt,hR']
        try cbv;exact fr
    ·-- a case
     have hT':T=(!((ks.length:Int) == 0) && R):=by rw[hT,if_pos rfl]
     have t0:qj (qz K) 0=((ks.length:Int) == 0):=hlen 0;cases hlw:((ks.length:Int) == 0)
     rotate_left
     ·rw[hlw] at hT' t0;have hT':T=false:=hT';rw[hT']
      try cbv;exact fr
     rw[hlw,Bool.not_false,Bool.true_and] at hT';rw[hlw] at t0;have h0:(ks.length:Int)≠0:=by simpa using hlw
     obtain⟨op',nm',ar',n',b',y0,y1,y2,y3,K',rx,g5,c0,h3⟩:=hkid 0 true true (by omega);have g5:va K 0=_:=g5;rw[show (true && !true)=false from rfl] at c0 h3;rw[List.drop_zero,<-hR,Bool.not_false,Bool.true_or,Bool.true_and] at h3;rw[hT'];cases rx
     ·have hR':R=false:=h3;rw[hR']
      try cbv;exact fr
     have in20:in2 1:=by
      rw[hv2];exact⟨1,rfl,by omega,Nat.le_refl _,by rw[h3];rfl⟩
     try cbv;refine gr ?_;try simp only[nc] at *
     refine o5 hA (γ:=Int) (λz=>[(8,vi .i64 z)]) (λx=>[]) in2 (λz=>ks.length - z.toNat) 1 in20 ?_ ?_
     ·cbv
     ·intro z hinv;cbv;refine gn ?_;try simp only[nc] at *
      rw[hv2] at hinv;obtain⟨k,hz,hk,h1k,hE'⟩:=hinv;have hlt:qh z (qz K)=decide (k<ks.length):=by rw[e7',r1,hl,hz];exact decide_eq_decide.2 (by omega)
      clear g5 c0 h3 t0
      by_cases h9:k<ks.length
      ·rw[decide_eq_true h9] at hlt;obtain⟨op',nm',ar',n',b',y0,y1,y2,y3,K',rx,g5,c0,h3⟩:=hkid k false true h9;rw[<-hz] at g5;rw[show (true && !false)=true from rfl] at c0 h3;rw[hE',Bool.not_true,Bool.false_or] at h3;have u1:qa .i64 (qb z 1)=((k+1:Nat):Int):=by rw[e1',e2',hz,IntWalk.i64_in _ (by omega)];omega
       have hm:ks.length - ((k+1:Nat):Int).toNat<ks.length - z.toNat:=by rw[hz];omega
       have hi:rtK GA true false (ks.drop (k+1))=R->in2 ((k+1:Nat):Int):=λe=>by
        rw[hv2];exact⟨k+1,rfl,h9,by omega,e⟩
       have q8:qh z (qa .i64 (qc (qz K) 1))=!(decide (k+1=ks.length)):=by
        rw[e1',e3',r1,hl,e7',hz,IntWalk.i64_in _ (by omega),<-decide_not];exact decide_eq_decide.2 (by omega)
       obtain⟨e5,he5⟩:∃e,e=(op' == 50):=⟨_,rfl⟩;have q7:=eb hA he5.symm;rw[<-he5] at h3;generalize ((k+1:Nat):Int)=z1 at *;generalize decide (k+1=ks.length)=ls at *;generalize rtK GA true false (ks.drop (k+1))=rr at *;clear hkid hE' hv2 hv3;rw[hlt];cases rx
       ·have hR':R=false:=h3;rw[hR']
        try cbv;exact fr
       cases e5
       ·have hR':rr=R:=by rw[h3];simp
        try cbv;refine gr ?_;try simp only[nc] at *
        refine⟨z1,hi hR',hm,?_⟩;cbv
       cases ls
       ·have hR':R=false:=h3;rw[hR']
        try cbv;exact fr
       ·have hR':rr=R:=by rw[h3];simp
        try cbv;refine gr ?_;try simp only[nc] at *
        refine⟨z1,hi hR',hm,?_⟩;cbv
      ·rw[decide_eq_false h9] at hlt;have hR':R=true:=by rw[<-hE',List.drop_of_length_le (by omega),rtK]
       rw[hlt,hR']
       try cbv;exact fr
   ·replace hlt:qh z (qt s)=true:=hlt;rw[hlt];clear hr1 hkid;have u1:=hz1;cases eb'
    ·obtain rfl:w=w1:=hw1
     try cbv;refine gr ?_;try simp only[nc] at *
     refine⟨(z1,w),hi,hm,?_⟩;cbv
    ·have u2:qa .i64 (qb w 1)=w1:=hw1
     try cbv;refine gr ?_;try simp only[nc] at *
     refine⟨(z1,w1),hi,hm,?_⟩;cbv
end Go.Proofs.YtncijebklnbhlaaGreatDoor.Vm
end
