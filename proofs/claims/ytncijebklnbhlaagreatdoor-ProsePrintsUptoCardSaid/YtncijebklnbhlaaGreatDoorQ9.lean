/- Part 9 of the proof. Conditions: none. -/
import Derived.Test.YtncijebklnbhlaaGreatDoorQ1
import Derived.Test.YtncijebklnbhlaaGreatDoorQ4
import Derived.Test.YtncijebklnbhlaaGreatDoorQ8
import Derived.IntWalk
set_option linter.all false
set_option linter.unusedVariables false
set_option linter.unusedSimpArgs false
section
namespace Go.Proofs.YtncijebklnbhlaaGreatDoor.Vm
open Go.RowKit
set_option maxRecDepth 100000
set_option maxHeartbeats 4000000
def E4 (d:ByteArray×Ty) (p:Bool×List (ByteArray×Ty)) (y:ByteArray×Ty):Bool×List (ByteArray×Ty) :=
 match p.1 with
 | true=>(true,p.2++[y])
 | false=>match C4 d y with|true=>(true,p.2++[d]++[y])|false=>(false,p.2++[y])
theorem a6H (d:ByteArray×Ty):∀(l acc:List (ByteArray×Ty)),l.foldl (E4 d) (true,acc)=(true,acc++l)
 | [],acc=>by simp
 | y::l,acc=>by rw[List.foldl_cons,show E4 d (true,acc) y=(true,acc++[y]) from rfl,a6H d l];simp
theorem a23 (d:ByteArray×Ty):∀(l acc:List (ByteArray×Ty)),(l.foldl (E4 d) (false,acc)).2++(if (l.foldl (E4 d) (false,acc)).1=true then [] else [d])=acc++N8 C4 d l
 | [],acc=>by simp[N8]
 | y::l,acc=>by
  rw[List.foldl_cons,N8];cases h:C4 d y with
  | true =>
   rw[show E4 d (false,acc) y=(true,acc++[d]++[y]) by unfold E4;rw[h],a6H]
   simp
  | false =>
   rw[show E4 d (false,acc) y=(false,acc++[y]) by unfold E4;rw[h],a23 d l]
   simp
theorem a24 (d:ByteArray×Ty) (l:List (ByteArray×Ty)):∀(p:Bool×List (ByteArray×Ty)),(l.foldl (E4 d) p).2.length<=p.2.length+l.length+1:=by
 have h1:∀(l:List (ByteArray×Ty)) (acc:List (ByteArray×Ty)),(l.foldl (E4 d) (true,acc)).2.length=acc.length+l.length:=λl acc=>by rw[a6H];simp
 induction l with
 | nil=>intro p;simp
 | cons y l ih =>
  intro p;obtain⟨b,acc⟩:=p;rw[List.foldl_cons];cases b with
  | true=>rw[show E4 d (true,acc) y=(true,acc++[y]) from rfl,h1];simp;omega
  | false =>
   cases h:C4 d y with
   | true=>rw[show E4 d (false,acc) y=(true,acc++[d]++[y]) by unfold E4;rw[h],h1];simp;omega
   | false =>
    rw[show E4 d (false,acc) y=(false,acc++[y]) by unfold E4;rw[h]];have:=ih (false,acc++[y])
    simp at this ⊢
    omega
theorem a6I (d:ByteArray×Ty) (l:List (ByteArray×Ty)) {k:Nat} {y:ByteArray×Ty} (h:l[k]?=some y) (p:Bool×List (ByteArray×Ty)):(l.take (k+1)).foldl (E4 d) p=E4 d ((l.take k).foldl (E4 d) p) y:=by
 rw[List.take_add_one,h,List.foldl_append];rfl
theorem P8 (a b:List (ByteArray×Ty)):rF (a++b)=rF a++rF b:=by unfold rF;rw[List.map_append]
theorem P9 (x:ByteArray×Ty):rF [x]=[.sc (.string x.1)::cT x.2]:=rfl
theorem b54 (t:Ty) (hs:G4 t) (hN:t.parts.length<=1048576):j5 55 [.ag (cT t)] [.one (.sl 5 (rF (j9 C4 (l5 t)))),.ag (cT (o4 t))]:=by
 obtain⟨Q,hQ⟩:∃Q,Q=rF (j9 C4 (l5 t)):=⟨_,rfl⟩;rw[<-hQ];obtain⟨q0,q1,q2,q3,hq⟩:=l6 (o4 t);rw[hq];obtain⟨op,nm,n,ks⟩:=t;generalize ht:Ty.mk op nm n ks=t at *;have hc:cT t=[.sc (.int .u8 op),.sc (.string nm),.sc (.int .i64 n),.sl 4 (rT ks)]:=by rw[<-ht,cT]
 obtain⟨K0,hK0⟩:∃K,K=rT ks:=⟨_,rfl⟩;rw[hc,<-hK0];refine C2 Tryz.func55 rfl ?_;intro qa qb _ _ _ _ _ qh _ qj _ _ qm qo _ _ _ _ _ _ _ _ qz va _ vd;intros;rename_i hA;cbv
 repeat (with_reducible apply j2 hA;cbv)
 obtain⟨e1,e2,e3,e4,e5,e6,e7,e8,e9⟩:=l7 hA;obtain⟨s1,s2,s3,s4,s5,s6,-⟩:=o8 hA;obtain⟨r1,r2,r3,r4⟩:=n8 hA
 refine o5 hA (γ:=Ty×Int×ByteArray×Int×List (List D)×List (List D)×V) (λx=>[(4,x.2.2.2.2.2.2)]) (λx=>[(0,.box [.d (.sc (.int .u8 x.2.1)),.d (.sc (.string x.2.2.1)),.d (.sc (.int .i64 x.2.2.2.1)),.d (.sl 4 x.2.2.2.2.1)])])
  (λx=>∃ks fs,x.1=.mk x.2.1 x.2.2.1 x.2.2.2.1 ks/\x.2.2.2.2.1=rT ks/\G4 x.1/\x.2.2.2.2.2.1=rF (j9 C4 fs)/\fs++l5 x.1=l5 t/\o4 x.1=o4 t/\fs.length+x.1.parts.length<=1048576/\(x.2.2.2.2.2.1=[]/\x.2.2.2.2.2.2=.em\/x.2.2.2.2.2.2=.d (.sl 5 x.2.2.2.2.2.1))) (λx=>x.1.parts.length) (t,op,nm,n,K0,[],.em) ?_ ?_ ?_
 ·exact⟨ks,[],ht.symm,hK0,hs,rfl,rfl,rfl,by simpa using hN,.inl ⟨rfl,rfl⟩⟩
 ·cbv
 ·intro x hinv;obtain⟨r,op,nm,n,K,L,v⟩:=x;cbv;refine gn ?_;obtain⟨ks,fs,hr,hK,hsr,hL,hfs,htl,hlen,hv⟩:=hinv;replace hr:r=.mk op nm n ks:=hr;replace hK:K=rT ks:=hK;replace hsr:G4 r:=hsr;replace hL:L=rF (j9 C4 fs):=hL;replace hfs:fs++l5 r=l5 t:=hfs;replace htl:o4 r=o4 t:=htl;replace hlen:fs.length+r.parts.length<=1048576:=hlen;replace hv:L=[]/\v=.em\/v=.d (.sl 5 L):=hv;have h11:qj op 11=decide (op=11):=e9 _ _
  by_cases hop:op=11
  ·rw[decide_eq_true hop] at h11;obtain⟨a,b,hk,hsb,hfb,htb⟩:=I8 hsr (by rw[hr];exact hop);have hnmr:r.name=nm:=by rw[hr];rfl
   rw[hnmr] at hfb;have hks:ks=[a,b]:=by rw[<-hk,hr];rfl
   obtain⟨a0,a1,a2,a3,ha⟩:=l6 a;obtain⟨op',nm',n',ks'⟩:=b;generalize hb:Ty.mk op' nm' n' ks'=b at *;have hcb:cT b=[.sc (.int .u8 op'),.sc (.string nm'),.sc (.int .i64 n'),.sl 4 (rT ks')]:=by rw[<-hb,cT]
   obtain⟨K',hK'⟩:∃K,K=rT ks':=⟨_,rfl⟩;rw[<-hK'] at hcb;have g0:va K 0=some [a0,a1,a2,a3]:=by rw[r2,if_pos (by omega),hK,hks];exact congrArg some ha
   have g1:va K 1=some [.sc (.int .u8 op'),.sc (.string nm'),.sc (.int .i64 n'),.sl 4 K']:=by rw[r2,if_pos (by omega),hK,hks];exact congrArg some hcb
   rw[h11]
   rcases hv with⟨hL0,rfl⟩|rfl
   ·cbv;refine b5o hA 4 5 L hL0 rfl ?_;cbv;clear hL0;rw[g0];cbv
    repeat (first|(refine a1v hA 6 74 true rfl ?_;cbv)|(with_reducible apply j2 hA;cbv))
    refine o5 hA (γ:=Int×Bool×List (List D)) (λx=>[(8,vi .i64 x.1),(7,vb x.2.1),(6,.own 3)]) (λx=>[(3,.row true 74 x.2.2)])
     (λx=>∃k:Nat,x.1=(k:Int)/\k<=(j9 C4 fs).length/\x.2.1=(((j9 C4 fs).take k).foldl (E4 (nm,a)) (false,[])).1/\x.2.2=rF (((j9 C4 fs).take k).foldl (E4 (nm,a)) (false,[])).2) (λx=>(j9 C4 fs).length - x.1.toNat) (0,false,[]) ?_ ?_ ?_
    ·exact⟨0,rfl,Nat.zero_le _,rfl,rfl⟩
    ·cbv
    ·intro x hinv;obtain⟨z,inn,M⟩:=x;cbv;refine gn ?_;obtain⟨k,hz,hk2,hin,hM⟩:=hinv;replace hz:z=(k:Int):=hz;replace hin:inn=(((j9 C4 fs).take k).foldl (E4 (nm,a)) (false,[])).1:=hin;replace hM:M=rF (((j9 C4 fs).take k).foldl (E4 (nm,a)) (false,[])).2:=hM;have hsn:(j9 C4 fs).length=fs.length:=N0 fs;have hll:qz L=(((j9 C4 fs).length:Nat):Int):=by rw[r1,hL,N4]
     have hlt:qh z (qz L)=decide (k<(j9 C4 fs).length):=by rw[e7,hll,hz];exact decide_eq_decide.2 (by omega)
     by_cases h9:k<(j9 C4 fs).length
     ·rw[decide_eq_true h9] at hlt;obtain⟨x,hx⟩:∃x,(j9 C4 fs)[k]?=some x:=⟨_,List.getElem?_eq_getElem h9⟩;have hpt:=a6I (nm,a) (j9 C4 fs) hx (false,[]);generalize hPk:((j9 C4 fs).take k).foldl (E4 (nm,a)) (false,[])=P at *;obtain⟨xn,xt⟩:=x;obtain⟨x0,x1,x2,x3,hxx⟩:=l6 xt;have gx:va L z=some [.sc (.string xn),x0,x1,x2,x3]:=by rw[r2,hz,if_pos (by omega),hL,show ((k:Int)).toNat=k by omega,a3j hx,hxx]
      have hsl:qm (qo nm) (qo xn)=C4 (nm,a) (xn,xt):=by rw[s2,s3,s3];rfl
      rw[hlt];obtain⟨Pb,Pl⟩:=P;simp only at hin hM;subst hin;have hz1:qa .i64 (qb z 1)=((k+1:Nat):Int):=by rw[e1,e2,hz,IntWalk.i64_in _ (by omega)];omega
      have hmu:(j9 C4 fs).length - (qa .i64 (qb z 1)).toNat<(j9 C4 fs).length - z.toNat:=by rw[hz1,hz];omega
      have hMl:M.length<=1048577:=by
       have h:=a24 (nm,a) ((j9 C4 fs).take k) (false,[]);rw[hPk,List.length_take] at h;rw[hM,N4];simp only[List.length_nil] at h;omega
      cases inn
      ·cases hlx:C4 (nm,a) (xn,xt)
       ·have hput:E4 (nm,a) (false,Pl) (xn,xt)=(false,Pl++[(xn,xt)]):=by unfold E4;rw[hlx]
        rw[hlx] at hsl;rw[hput] at hpt;cbv;repeat (first|(with_reducible apply j2 hA;cbv)|(rw[gx];cbv)|(rw[hsl];cbv)|(refine y7 hA true ?_;cbv)|(refine y9 hA (by simp only[r4,List.length_append,List.length_cons,List.length_nil];omega) ?_;cbv))
        refine⟨(qa .i64 (qb z 1),false,vd M [[.sc (.string xn),x0,x1,x2,x3]]),⟨k+1,hz1,h9,by rw[hpt],by rw[hpt];show vd M _=rF (Pl++[(xn,xt)]);rw[r4,hM,P8,P9,hxx]⟩,hmu,?_⟩;cbv
       ·have hput:E4 (nm,a) (false,Pl) (xn,xt)=(true,Pl++[(nm,a)]++[(xn,xt)]):=by unfold E4;rw[hlx]
        rw[hlx] at hsl;rw[hput] at hpt;cbv;repeat (first|(with_reducible apply j2 hA;cbv)|(rw[gx];cbv)|(rw[hsl];cbv)|(refine y7 hA true ?_;cbv)|(refine y9 hA (by simp only[r4,List.length_append,List.length_cons,List.length_nil];omega) ?_;cbv))
        refine⟨(qa .i64 (qb z 1),true,vd (vd M [[.sc (.string nm),a0,a1,a2,a3]]) [[.sc (.string xn),x0,x1,x2,x3]]),⟨k+1,hz1,h9,by rw[hpt],by rw[hpt];show vd (vd M _) _=rF (Pl++[(nm,a)]++[(xn,xt)]);rw[r4,r4,hM,P8,P8,P9,P9,hxx,ha]⟩,hmu,?_⟩;cbv
      ·have hput:E4 (nm,a) (true,Pl) (xn,xt)=(true,Pl++[(xn,xt)]):=rfl;rw[hput] at hpt;cbv;repeat (first|(with_reducible apply j2 hA;cbv)|(rw[gx];cbv)|(rw[hsl];cbv)|(refine y7 hA true ?_;cbv)|(refine y9 hA (by simp only[r4,List.length_append,List.length_cons,List.length_nil];omega) ?_;cbv))
       refine⟨(qa .i64 (qb z 1),true,vd M [[.sc (.string xn),x0,x1,x2,x3]]),⟨k+1,hz1,h9,by rw[hpt],by rw[hpt];show vd M _=rF (Pl++[(xn,xt)]);rw[r4,hM,P8,P9,hxx]⟩,hmu,?_⟩;cbv
     ·rw[decide_eq_false h9] at hlt;have hins:=a23 (nm,a) (j9 C4 fs) [];rw[List.take_of_length_le (by omega)] at hin hM
      have hMl:M.length<=1048577:=by
       have h:=a24 (nm,a) (j9 C4 fs) (false,[]);rw[hM,N4];simp only[List.length_nil] at h;omega
      generalize hPk:(j9 C4 fs).foldl (E4 (nm,a)) (false,[])=P at *;obtain⟨Pb,Pl⟩:=P;simp only at hin hM hins;subst hin;rw[List.nil_append,<-a48] at hins;have hbl:b.parts.length<r.parts.length:=(A4 r).2 b (by rw[hk];simp);have hfs2:(fs++[(nm,a)])++l5 b=l5 t:=by rw[List.append_assoc,<-hfs,hfb];rfl
      rw[hlt];cases inn
      ·cbv;repeat (first|(refine a3N hA 4 3 _ rfl rfl ?_;cbv)|(with_reducible apply j2 hA;cbv)|(rw[g1];cbv)|(refine y7 hA true ?_;cbv)|(refine y9 hA (by simp only[r4,List.length_append,List.length_cons,List.length_nil];omega) ?_;cbv))
       have hnew:vd M [[.sc (.string nm),a0,a1,a2,a3]]=rF (j9 C4 (fs++[(nm,a)])):=by rw[<-hins,if_neg (by decide),r4,hM,P8,P9,ha]
       refine⟨(b,op',nm',n',K',vd M [[.sc (.string nm),a0,a1,a2,a3]],.d (.sl 5 (vd M [[.sc (.string nm),a0,a1,a2,a3]]))),⟨ks',fs++[(nm,a)],hb.symm,hK',hsb,hnew,hfs2,by rw[<-htl,htb],by rw[List.length_append];show fs.length+1+b.parts.length<=_;omega,.inr rfl⟩,hbl,?_⟩;cbv
      ·cbv;repeat (first|(refine a3N hA 4 3 _ rfl rfl ?_;cbv)|(with_reducible apply j2 hA;cbv)|(rw[g1];cbv)|(refine y7 hA true ?_;cbv)|(refine y9 hA (by simp only[r4,List.length_append,List.length_cons,List.length_nil];omega) ?_;cbv))
       have hnew:M=rF (j9 C4 (fs++[(nm,a)])):=by rw[<-hins,if_pos rfl,List.append_nil,hM]
       refine⟨(b,op',nm',n',K',M,.d (.sl 5 M)),⟨ks',fs++[(nm,a)],hb.symm,hK',hsb,hnew,hfs2,by rw[<-htl,htb],by rw[List.length_append];show fs.length+1+b.parts.length<=_;omega,.inr rfl⟩,hbl,?_⟩;cbv
   ·cbv
    with_reducible apply j2 hA
    cbv;rw[g0];cbv
    repeat (first|(refine a1v hA 6 74 true rfl ?_;cbv)|(with_reducible apply j2 hA;cbv))
    refine o5 hA (γ:=Int×Bool×List (List D)) (λx=>[(8,vi .i64 x.1),(7,vb x.2.1),(6,.own 3)]) (λx=>[(3,.row true 74 x.2.2)])
     (λx=>∃k:Nat,x.1=(k:Int)/\k<=(j9 C4 fs).length/\x.2.1=(((j9 C4 fs).take k).foldl (E4 (nm,a)) (false,[])).1/\x.2.2=rF (((j9 C4 fs).take k).foldl (E4 (nm,a)) (false,[])).2) (λx=>(j9 C4 fs).length - x.1.toNat) (0,false,[]) ?_ ?_ ?_
    ·exact⟨0,rfl,Nat.zero_le _,rfl,rfl⟩
    ·cbv
    ·intro x hinv;obtain⟨z,inn,M⟩:=x;cbv
     repeat ((with_reducible apply j2 hA);cbv)
     obtain⟨k,hz,hk2,hin,hM⟩:=hinv;replace hz:z=(k:Int):=hz;replace hin:inn=(((j9 C4 fs).take k).foldl (E4 (nm,a)) (false,[])).1:=hin;replace hM:M=rF (((j9 C4 fs).take k).foldl (E4 (nm,a)) (false,[])).2:=hM;have hsn:(j9 C4 fs).length=fs.length:=N0 fs;have hll:qz L=(((j9 C4 fs).length:Nat):Int):=by rw[r1,hL,N4]
     have hlt:qh z (qz L)=decide (k<(j9 C4 fs).length):=by rw[e7,hll,hz];exact decide_eq_decide.2 (by omega)
     by_cases h9:k<(j9 C4 fs).length
     ·rw[decide_eq_true h9] at hlt;obtain⟨x,hx⟩:∃x,(j9 C4 fs)[k]?=some x:=⟨_,List.getElem?_eq_getElem h9⟩;have hpt:=a6I (nm,a) (j9 C4 fs) hx (false,[]);generalize hPk:((j9 C4 fs).take k).foldl (E4 (nm,a)) (false,[])=P at *;obtain⟨xn,xt⟩:=x;obtain⟨x0,x1,x2,x3,hxx⟩:=l6 xt;have gx:va L z=some [.sc (.string xn),x0,x1,x2,x3]:=by rw[r2,hz,if_pos (by omega),hL,show ((k:Int)).toNat=k by omega,a3j hx,hxx]
      have hsl:qm (qo nm) (qo xn)=C4 (nm,a) (xn,xt):=by rw[s2,s3,s3];rfl
      rw[hlt];obtain⟨Pb,Pl⟩:=P;simp only at hin hM;subst hin;have hz1:qa .i64 (qb z 1)=((k+1:Nat):Int):=by rw[e1,e2,hz,IntWalk.i64_in _ (by omega)];omega
      have hmu:(j9 C4 fs).length - (qa .i64 (qb z 1)).toNat<(j9 C4 fs).length - z.toNat:=by rw[hz1,hz];omega
      have hMl:M.length<=1048577:=by
       have h:=a24 (nm,a) ((j9 C4 fs).take k) (false,[]);rw[hPk,List.length_take] at h;rw[hM,N4];simp only[List.length_nil] at h;omega
      cases inn
      ·cases hlx:C4 (nm,a) (xn,xt)
       ·have hput:E4 (nm,a) (false,Pl) (xn,xt)=(false,Pl++[(xn,xt)]):=by unfold E4;rw[hlx]
        rw[hlx] at hsl;rw[hput] at hpt;cbv;repeat (first|(with_reducible apply j2 hA;cbv)|(rw[gx];cbv)|(rw[hsl];cbv)|(refine y7 hA true ?_;cbv)|(refine y9 hA (by simp only[r4,List.length_append,List.length_cons,List.length_nil];omega) ?_;cbv))
        refine⟨(qa .i64 (qb z 1),false,vd M [[.sc (.string xn),x0,x1,x2,x3]]),⟨k+1,hz1,h9,by rw[hpt],by rw[hpt];show vd M _=rF (Pl++[(xn,xt)]);rw[r4,hM,P8,P9,hxx]⟩,hmu,?_⟩;cbv
       ·have hput:E4 (nm,a) (false,Pl) (xn,xt)=(true,Pl++[(nm,a)]++[(xn,xt)]):=by unfold E4;rw[hlx]
        rw[hlx] at hsl;rw[hput] at hpt;cbv;repeat (first|(with_reducible apply j2 hA;cbv)|(rw[gx];cbv)|(rw[hsl];cbv)|(refine y7 hA true ?_;cbv)|(refine y9 hA (by simp only[r4,List.length_append,List.length_cons,List.length_nil];omega) ?_;cbv))
        refine⟨(qa .i64 (qb z 1),true,vd (vd M [[.sc (.string nm),a0,a1,a2,a3]]) [[.sc (.string xn),x0,x1,x2,x3]]),⟨k+1,hz1,h9,by rw[hpt],by rw[hpt];show vd (vd M _) _=rF (Pl++[(nm,a)]++[(xn,xt)]);rw[r4,r4,hM,P8,P8,P9,P9,hxx,ha]⟩,hmu,?_⟩;cbv
      ·have hput:E4 (nm,a) (true,Pl) (xn,xt)=(true,Pl++[(xn,xt)]):=rfl;rw[hput] at hpt;cbv;repeat (first|(with_reducible apply j2 hA;cbv)|(rw[gx];cbv)|(rw[hsl];cbv)|(refine y7 hA true ?_;cbv)|(refine y9 hA (by simp only[r4,List.length_append,List.length_cons,List.length_nil];omega) ?_;cbv))
       refine⟨(qa .i64 (qb z 1),true,vd M [[.sc (.string xn),x0,x1,x2,x3]]),⟨k+1,hz1,h9,by rw[hpt],by rw[hpt];show vd M _=rF (Pl++[(xn,xt)]);rw[r4,hM,P8,P9,hxx]⟩,hmu,?_⟩;cbv
     ·rw[decide_eq_false h9] at hlt;have hins:=a23 (nm,a) (j9 C4 fs) [];rw[List.take_of_length_le (by omega)] at hin hM
      have hMl:M.length<=1048577:=by
       have h:=a24 (nm,a) (j9 C4 fs) (false,[]);rw[hM,N4];simp only[List.length_nil] at h;omega
      generalize hPk:(j9 C4 fs).foldl (E4 (nm,a)) (false,[])=P at *;obtain⟨Pb,Pl⟩:=P;simp only at hin hM hins;subst hin;rw[List.nil_append,<-a48] at hins;have hbl:b.parts.length<r.parts.length:=(A4 r).2 b (by rw[hk];simp);have hfs2:(fs++[(nm,a)])++l5 b=l5 t:=by rw[List.append_assoc,<-hfs,hfb];rfl
      rw[hlt];cases inn
      ·cbv;repeat (first|(refine a3N hA 4 3 _ rfl rfl ?_;cbv)|(with_reducible apply j2 hA;cbv)|(rw[g1];cbv)|(refine y7 hA true ?_;cbv)|(refine y9 hA (by simp only[r4,List.length_append,List.length_cons,List.length_nil];omega) ?_;cbv))
       have hnew:vd M [[.sc (.string nm),a0,a1,a2,a3]]=rF (j9 C4 (fs++[(nm,a)])):=by rw[<-hins,if_neg (by decide),r4,hM,P8,P9,ha]
       refine⟨(b,op',nm',n',K',vd M [[.sc (.string nm),a0,a1,a2,a3]],.d (.sl 5 (vd M [[.sc (.string nm),a0,a1,a2,a3]]))),⟨ks',fs++[(nm,a)],hb.symm,hK',hsb,hnew,hfs2,by rw[<-htl,htb],by rw[List.length_append];show fs.length+1+b.parts.length<=_;omega,.inr rfl⟩,hbl,?_⟩;cbv
      ·cbv;repeat (first|(refine a3N hA 4 3 _ rfl rfl ?_;cbv)|(with_reducible apply j2 hA;cbv)|(rw[g1];cbv)|(refine y7 hA true ?_;cbv)|(refine y9 hA (by simp only[r4,List.length_append,List.length_cons,List.length_nil];omega) ?_;cbv))
       have hnew:M=rF (j9 C4 (fs++[(nm,a)])):=by rw[<-hins,if_pos rfl,List.append_nil,hM]
       refine⟨(b,op',nm',n',K',M,.d (.sl 5 M)),⟨ks',fs++[(nm,a)],hb.symm,hK',hsb,hnew,hfs2,by rw[<-htl,htb],by rw[List.length_append];show fs.length+1+b.parts.length<=_;omega,.inr rfl⟩,hbl,?_⟩;cbv
  ·rw[decide_eq_false hop] at h11;obtain⟨hf0,ht0⟩:=B3 (t:=r) (by rw[hr];exact hop);rw[hf0,List.append_nil] at hfs;have hLQ:L=Q:=by rw[hL,hfs,hQ]
   rw[ht0,hr] at htl;rw[<-htl,cT,<-hK] at hq;rw[h11]
   rcases hv with⟨hL0,rfl⟩|rfl
   ·cbv;refine b5o hA 4 5 L hL0 rfl ?_;rw[hLQ];cases hq;cbv
    repeat ((with_reducible apply j2 hA);cbv)
   ·rw[hLQ];cases hq;cbv
    repeat ((with_reducible apply j2 hA);cbv)
theorem b3E (t:Ty) (hs:G4 t) (hN:t.parts.length<=1048576):B0 55 [.ag (ofD (cT t))] [] (λres os'=>res=[.own 0,.ag (ofD (cT (o4 t)))]/\os'=[.row false 74 (rF (j9 C4 (l5 t)))]):=by
 obtain⟨Q,hQ⟩:∃Q,Q=rF (j9 C4 (l5 t)):=⟨_,rfl⟩;rw[<-hQ];obtain⟨q0,q1,q2,q3,hq⟩:=l6 (o4 t);rw[hq];obtain⟨op,nm,n,ks⟩:=t;generalize ht:Ty.mk op nm n ks=t at *;have hc:cT t=[.sc (.int .u8 op),.sc (.string nm),.sc (.int .i64 n),.sl 4 (rT ks)]:=by rw[<-ht,cT]
 obtain⟨K0,hK0⟩:∃K,K=rT ks:=⟨_,rfl⟩;rw[hc,<-hK0];refine so9 Tryz.func55 rfl ?_;intro qa qb _ _ _ _ _ qh _ qj _ _ qm qo _ _ _ _ _ _ _ _ qz va _ vd;intros;rename_i hA;cbv
 repeat (with_reducible apply j2 hA;cbv)
 obtain⟨e1,e2,e3,e4,e5,e6,e7,e8,e9⟩:=l7 hA;obtain⟨s1,s2,s3,s4,s5,s6,-⟩:=o8 hA;obtain⟨r1,r2,r3,r4⟩:=n8 hA
 refine b5p hA (γ:=Ty×Int×ByteArray×Int×List (List D)×List (List D)) (λx=>[(4,.own 2)]) (λx=>[(0,.box [.d (.sc (.int .u8 x.2.1)),.d (.sc (.string x.2.2.1)),.d (.sc (.int .i64 x.2.2.2.1)),.d (.sl 4 x.2.2.2.2.1)])]) (λx=>[.row false 74 x.2.2.2.2.2])
  (λx=>∃ks fs,x.1=.mk x.2.1 x.2.2.1 x.2.2.2.1 ks/\x.2.2.2.2.1=rT ks/\G4 x.1/\x.2.2.2.2.2=rF (j9 C4 fs)/\fs++l5 x.1=l5 t/\o4 x.1=o4 t/\fs.length+x.1.parts.length<=1048576) (λx=>x.1.parts.length) (t,op,nm,n,K0,[]) ?_ ?_ ?_
 ·exact⟨ks,[],ht.symm,hK0,hs,rfl,rfl,rfl,by simpa using hN⟩
 ·refine a1o.of (E2.own _ 4 74 false rfl) ?_ (by exact Nat.le_of_ble_eq_true rfl);cbv
 ·intro x hinv;obtain⟨r,op,nm,n,K,L⟩:=x;cbv;refine gn ?_;obtain⟨ks,fs,hr,hK,hsr,hL,hfs,htl,hlen⟩:=hinv;replace hr:r=.mk op nm n ks:=hr;replace hK:K=rT ks:=hK;replace hsr:G4 r:=hsr;replace hL:L=rF (j9 C4 fs):=hL;replace hfs:fs++l5 r=l5 t:=hfs;replace htl:o4 r=o4 t:=htl;replace hlen:fs.length+r.parts.length<=1048576:=hlen;have h11:qj op 11=decide (op=11):=e9 _ _
  by_cases hop:op=11
  ·rw[decide_eq_true hop] at h11;obtain⟨a,b,hk,hsb,hfb,htb⟩:=I8 hsr (by rw[hr];exact hop);have hnmr:r.name=nm:=by rw[hr];rfl
   rw[hnmr] at hfb;have hks:ks=[a,b]:=by rw[<-hk,hr];rfl
   obtain⟨a0,a1,a2,a3,ha⟩:=l6 a;obtain⟨op',nm',n',ks'⟩:=b;generalize hb:Ty.mk op' nm' n' ks'=b at *;have hcb:cT b=[.sc (.int .u8 op'),.sc (.string nm'),.sc (.int .i64 n'),.sl 4 (rT ks')]:=by rw[<-hb,cT]
   obtain⟨K',hK'⟩:∃K,K=rT ks':=⟨_,rfl⟩;rw[<-hK'] at hcb;have g0:va K 0=some [a0,a1,a2,a3]:=by rw[r2,if_pos (by omega),hK,hks];exact congrArg some ha
   have g1:va K 1=some [.sc (.int .u8 op'),.sc (.string nm'),.sc (.int .i64 n'),.sl 4 K']:=by rw[r2,if_pos (by omega),hK,hks];exact congrArg some hcb
   rw[h11];cbv;refine gn ?_;rw[g0];cbv
   repeat (first|(refine a1v hA 6 74 false rfl ?_;cbv)|(with_reducible apply j2 hA;cbv))
   refine o5 hA (γ:=Int×Bool×List (List D)) (λx=>[(8,vi .i64 x.1),(7,vb x.2.1),(6,.own 4)]) (λx=>[(4,.row false 74 x.2.2)])
    (λx=>∃k:Nat,x.1=(k:Int)/\k<=(j9 C4 fs).length/\x.2.1=(((j9 C4 fs).take k).foldl (E4 (nm,a)) (false,[])).1/\x.2.2=rF (((j9 C4 fs).take k).foldl (E4 (nm,a)) (false,[])).2) (λx=>(j9 C4 fs).length - x.1.toNat) (0,false,[]) ?_ ?_ ?_
   ·exact⟨0,rfl,Nat.zero_le _,rfl,rfl⟩
   ·cbv
   ·intro x hinv;obtain⟨z,inn,M⟩:=x;cbv;refine gn ?_;obtain⟨k,hz,hk2,hin,hM⟩:=hinv;replace hz:z=(k:Int):=hz;replace hin:inn=(((j9 C4 fs).take k).foldl (E4 (nm,a)) (false,[])).1:=hin;replace hM:M=rF (((j9 C4 fs).take k).foldl (E4 (nm,a)) (false,[])).2:=hM;have hsn:(j9 C4 fs).length=fs.length:=N0 fs;have hll:qz L=(((j9 C4 fs).length:Nat):Int):=by rw[r1,hL,N4]
    have hlt:qh z (qz L)=decide (k<(j9 C4 fs).length):=by rw[e7,hll,hz];exact decide_eq_decide.2 (by omega)
    by_cases h9:k<(j9 C4 fs).length
    ·rw[decide_eq_true h9] at hlt;obtain⟨x,hx⟩:∃x,(j9 C4 fs)[k]?=some x:=⟨_,List.getElem?_eq_getElem h9⟩;have hpt:=a6I (nm,a) (j9 C4 fs) hx (false,[]);generalize hPk:((j9 C4 fs).take k).foldl (E4 (nm,a)) (false,[])=P at *;obtain⟨xn,xt⟩:=x;obtain⟨x0,x1,x2,x3,hxx⟩:=l6 xt;have gx:va L z=some [.sc (.string xn),x0,x1,x2,x3]:=by rw[r2,hz,if_pos (by omega),hL,show ((k:Int)).toNat=k by omega,a3j hx,hxx]
     have hsl:qm (qo nm) (qo xn)=C4 (nm,a) (xn,xt):=by rw[s2,s3,s3];rfl
     rw[hlt];obtain⟨Pb,Pl⟩:=P;simp only at hin hM;subst hin;have hz1:qa .i64 (qb z 1)=((k+1:Nat):Int):=by rw[e1,e2,hz,IntWalk.i64_in _ (by omega)];omega
     have hmu:(j9 C4 fs).length - (qa .i64 (qb z 1)).toNat<(j9 C4 fs).length - z.toNat:=by rw[hz1,hz];omega
     have hMl:M.length<=1048577:=by
      have h:=a24 (nm,a) ((j9 C4 fs).take k) (false,[]);rw[hPk,List.length_take] at h;rw[hM,N4];simp only[List.length_nil] at h;omega
     cases inn
     ·cases hlx:C4 (nm,a) (xn,xt)
      ·have hput:E4 (nm,a) (false,Pl) (xn,xt)=(false,Pl++[(xn,xt)]):=by unfold E4;rw[hlx]
       rw[hlx] at hsl;rw[hput] at hpt;cbv;repeat (first|(with_reducible apply j2 hA;cbv)|(rw[gx];cbv)|(rw[hsl];cbv)|(refine y7 hA true ?_;cbv)|(refine y9 hA (by simp only[r4,List.length_append,List.length_cons,List.length_nil];omega) ?_;cbv))
       refine⟨(qa .i64 (qb z 1),false,vd M [[.sc (.string xn),x0,x1,x2,x3]]),⟨k+1,hz1,h9,by rw[hpt],by rw[hpt];show vd M _=rF (Pl++[(xn,xt)]);rw[r4,hM,P8,P9,hxx]⟩,hmu,?_⟩;cbv
      ·have hput:E4 (nm,a) (false,Pl) (xn,xt)=(true,Pl++[(nm,a)]++[(xn,xt)]):=by unfold E4;rw[hlx]
       rw[hlx] at hsl;rw[hput] at hpt;cbv;repeat (first|(with_reducible apply j2 hA;cbv)|(rw[gx];cbv)|(rw[hsl];cbv)|(refine y7 hA true ?_;cbv)|(refine y9 hA (by simp only[r4,List.length_append,List.length_cons,List.length_nil];omega) ?_;cbv))
       refine⟨(qa .i64 (qb z 1),true,vd (vd M [[.sc (.string nm),a0,a1,a2,a3]]) [[.sc (.string xn),x0,x1,x2,x3]]),⟨k+1,hz1,h9,by rw[hpt],by rw[hpt];show vd (vd M _) _=rF (Pl++[(nm,a)]++[(xn,xt)]);rw[r4,r4,hM,P8,P8,P9,P9,hxx,ha]⟩,hmu,?_⟩;cbv
     ·have hput:E4 (nm,a) (true,Pl) (xn,xt)=(true,Pl++[(xn,xt)]):=rfl;rw[hput] at hpt;cbv;repeat (first|(with_reducible apply j2 hA;cbv)|(rw[gx];cbv)|(rw[hsl];cbv)|(refine y7 hA true ?_;cbv)|(refine y9 hA (by simp only[r4,List.length_append,List.length_cons,List.length_nil];omega) ?_;cbv))
      refine⟨(qa .i64 (qb z 1),true,vd M [[.sc (.string xn),x0,x1,x2,x3]]),⟨k+1,hz1,h9,by rw[hpt],by rw[hpt];show vd M _=rF (Pl++[(xn,xt)]);rw[r4,hM,P8,P9,hxx]⟩,hmu,?_⟩;cbv
    ·rw[decide_eq_false h9] at hlt;have hins:=a23 (nm,a) (j9 C4 fs) [];rw[List.take_of_length_le (by omega)] at hin hM
     have hMl:M.length<=1048577:=by
      have h:=a24 (nm,a) (j9 C4 fs) (false,[]);rw[hM,N4];simp only[List.length_nil] at h;omega
     generalize hPk:(j9 C4 fs).foldl (E4 (nm,a)) (false,[])=P at *;obtain⟨Pb,Pl⟩:=P;simp only at hin hM hins;subst hin;rw[List.nil_append,<-a48] at hins;have hbl:b.parts.length<r.parts.length:=(A4 r).2 b (by rw[hk];simp);have hfs2:(fs++[(nm,a)])++l5 b=l5 t:=by rw[List.append_assoc,<-hfs,hfb];rfl
     rw[hlt];cases inn
     ·cbv;repeat (first|(with_reducible apply j2 hA;cbv)|(rw[g1];cbv)|(refine y7 hA true ?_;cbv)|(refine y9 hA (by simp only[r4,List.length_append,List.length_cons,List.length_nil];omega) ?_;cbv))
      have hnew:vd M [[.sc (.string nm),a0,a1,a2,a3]]=rF (j9 C4 (fs++[(nm,a)])):=by rw[<-hins,if_neg (by decide),r4,hM,P8,P9,ha]
      refine⟨(b,op',nm',n',K',vd M [[.sc (.string nm),a0,a1,a2,a3]]),⟨ks',fs++[(nm,a)],hb.symm,hK',hsb,hnew,hfs2,by rw[<-htl,htb],by rw[List.length_append];show fs.length+1+b.parts.length<=_;omega⟩,hbl,a1o.of (E2.move _ 4 2 4 rfl rfl rfl rfl) ?_ (by exact Nat.le_of_ble_eq_true rfl)⟩;cbv
     ·cbv;repeat (first|(with_reducible apply j2 hA;cbv)|(rw[g1];cbv)|(refine y7 hA true ?_;cbv)|(refine y9 hA (by simp only[r4,List.length_append,List.length_cons,List.length_nil];omega) ?_;cbv))
      have hnew:M=rF (j9 C4 (fs++[(nm,a)])):=by rw[<-hins,if_pos rfl,List.append_nil,hM]
      refine⟨(b,op',nm',n',K',M),⟨ks',fs++[(nm,a)],hb.symm,hK',hsb,hnew,hfs2,by rw[<-htl,htb],by rw[List.length_append];show fs.length+1+b.parts.length<=_;omega⟩,hbl,a1o.of (E2.move _ 4 2 4 rfl rfl rfl rfl) ?_ (by exact Nat.le_of_ble_eq_true rfl)⟩;cbv
  ·rw[decide_eq_false hop] at h11;obtain⟨hf0,ht0⟩:=B3 (t:=r) (by rw[hr];exact hop);rw[hf0,List.append_nil] at hfs;have hLQ:L=Q:=by rw[hL,hfs,hQ]
   rw[ht0,hr] at htl;rw[<-htl,cT,<-hK] at hq;rw[h11,hLQ];cases hq;cbv;refine gn ?_;exact r7 hA [2] ⟨rfl,rfl,rfl,rfl,rfl,rfl,rfl,rfl⟩ ⟨rfl,rfl⟩
section
def a0e {α:Type} (a b:Nat):Nat->List α->List α
 | 0,l=>l
 | k+1,l=>match (a0e a b k l)[a+k]?,(a0e a b k l)[b+k]? with
  | some x,some y=>((a0e a b k l).set (a+k) y).set (b+k) x
  | _,_=>a0e a b k l
theorem a25 {α:Type} (a b:Nat):∀(k:Nat) (l:List α),(a0e a b k l).length=l.length
 | 0,l=>rfl
 | k+1,l=>by
  unfold a0e
  split
  ·rw[List.length_set,List.length_set,a25]
  ·exact a25 a b k l
theorem a7Y {α:Type} (a b:Nat):∀(k:Nat) (l:List α),a+k<=b->b+k<=l.length->∀i,(a0e a b k l)[i]?=if a<=i/\i<a+k then l[i - a+b]? else if b<=i/\i<b+k then l[i - b+a]? else l[i]?
 | 0,l,_,_,i=>by
  rw[if_neg (by omega),if_neg (by omega)];rfl
 | k+1,l,h1,h2,i=>by
  have ih:=a7Y a b k l (by omega) (by omega);have ea:=ih (a+k);have eb:=ih (b+k);rw[if_neg (by omega),if_neg (by omega)] at ea eb;have hla:a+k<l.length:=by omega
  have hlb:b+k<l.length:=by omega
  rw[List.getElem?_eq_getElem hla] at ea;rw[List.getElem?_eq_getElem hlb] at eb;unfold a0e;rw[ea,eb];simp only;have hsl:=a25 a b k l
  by_cases e1:i=b+k
  ·subst e1;rw[List.getElem?_set_self (by rw[List.length_set,hsl];omega),if_neg (by omega),if_pos (by omega),show b+k - b+a=a+k by omega,List.getElem?_eq_getElem hla]
  ·rw[List.getElem?_set_ne (by omega)]
   by_cases e2:i=a+k
   ·subst e2;rw[List.getElem?_set_self (by rw[hsl];omega),if_pos (by omega),show a+k - a+b=b+k by omega,List.getElem?_eq_getElem hlb]
   ·rw[List.getElem?_set_ne (by omega),ih i]
    by_cases c1:a<=i/\i<a+k
    ·rw[if_pos c1,if_pos (by omega)]
    ·rw[if_neg c1]
     by_cases c2:b<=i/\i<b+k
     ·rw[if_pos c2,if_neg (by omega),if_pos (by omega)]
     ·rw[if_neg c2,if_neg (by omega),if_neg (by omega)]
theorem a2n {α:Type} (P X M Y S:List α) (h:X.length=Y.length):a0e P.length (P.length+X.length+M.length) X.length (P++(X++(M++(Y++S))))=P++(Y++(M++(X++S))):=by
 apply List.ext_getElem?
 intro i;rw[a7Y _ _ _ _ (by omega) (by simp only[List.length_append];omega)];simp only[List.getElem?_append]
 repeat' split
 all_goals first
  | rfl
  | omega
  | (congr 1;omega)
theorem a02 {α:Type} {l:List α} {n:Nat} (h:n<=l.length):∃a b,l=a++b/\a.length=n:=⟨l.take n,l.drop n,(List.take_append_drop n l).symm,by simp;omega⟩
theorem a6J {α:Type} {xs:List α} {k:Nat} {y:α} (h:xs[k]?=some y):xs.take (k+1)=xs.take k++[y]:=by
 obtain⟨hi,e⟩:=List.getElem?_eq_some_iff.1 h;rw[List.take_succ_eq_append_getElem hi,e]
theorem a4A:∀l:List UInt8,Op.bytesLess l l=false
 | []=>rfl
 | a::l=>by simp[Op.bytesLess,a4A l]
theorem a4B:∀x y z:List UInt8,Op.bytesLess x y=true->Op.bytesLess y z=true->Op.bytesLess x z=true
 | x,[],_,h,_=>by cases x <;> simp[Op.bytesLess] at h
 | _,_::_,[],_,h=>by simp[Op.bytesLess] at h
 | [],_::_,_::_,_,_=>by simp[Op.bytesLess]
 | a::x,b::y,c::z,h1,h2=>by
  simp only[Op.bytesLess,Bool.or_eq_true,decide_eq_true_eq,Bool.and_eq_true,beq_iff_eq] at h1 h2 ⊢
  rcases h1 with h1|⟨rfl,h1⟩
  ·rcases h2 with h2|⟨rfl,h2⟩
   ·exact .inl (UInt8.lt_trans h1 h2)
   ·exact .inl h1
  ·rcases h2 with h2|⟨rfl,h2⟩
   ·exact .inl h2
   ·exact .inr ⟨rfl,a4B x y z h1 h2⟩
theorem a4C:∀x y z:List UInt8,Op.bytesLess x y=false->Op.bytesLess y z=false->Op.bytesLess x z=false
 | x,_,[],_,_=>by cases x <;> simp[Op.bytesLess]
 | _,[],_::_,_,h=>by simp[Op.bytesLess] at h
 | [],_::_,_,h,_=>by simp[Op.bytesLess] at h
 | a::x,b::y,c::z,h1,h2=>by
  simp only[Op.bytesLess,Bool.or_eq_false_iff,decide_eq_false_iff_not,Bool.and_eq_false_iff,beq_eq_false_iff_ne,ne_eq] at h1 h2 ⊢;obtain⟨h1,h1'⟩:=h1;obtain⟨h2,h2'⟩:=h2
  have h3:¬a<c:=λh=>by
   rw[UInt8.lt_iff_toNat_lt] at h h1 h2;omega
  refine⟨h3,?_⟩
  by_cases hac:a=c
  ·subst hac
   right
   have hab:a=b:=by
    rw[UInt8.lt_iff_toNat_lt] at h1 h2;exact UInt8.toNat_inj.1 (by omega)
   subst hab;exact a4C x y z (by simpa using h1') (by simpa using h2')
  ·exact .inl hac
abbrev Rw:=List D
def c0N:Rw->List UInt8
 | .sc (.string a)::_=>a.toList
 | _=>[]
def B5 (x y:Rw):Bool:=Op.bytesLess (c0N x) (c0N y)
theorem L7:Swo B5:=⟨λ_=>a4A _,λ_ _ _=>a4B _ _ _,λ_ _ _=>a4C _ _ _⟩
theorem b0r {α β:Type} {f:α->β} {lt:α->α->Bool} {lt2:β->β->Bool} (h:∀x y,lt2 (f x) (f y)=lt x y) (x:α):∀l:List α,N8 lt2 (f x) (l.map f)=(N8 lt x l).map f
 | []=>rfl
 | y::l=>by
  rw[List.map_cons,N8,N8,h]
  split
  ·rfl
  ·rw[List.map_cons,b0r h x l]
theorem b3F {α β:Type} {f:α->β} {lt:α->α->Bool} {lt2:β->β->Bool} (h:∀x y,lt2 (f x) (f y)=lt x y) (l:List α):j9 lt2 (l.map f)=(j9 lt l).map f:=by
 have key:∀(l acc:List α),(l.map f).foldl (λacc x=>N8 lt2 x acc) (acc.map f)=(l.foldl (λacc x=>N8 lt x acc) acc).map f:=by
  intro l
  induction l with
  | nil=>intro acc;rfl
  | cons x l ih=>intro acc;rw[List.map_cons,List.foldl_cons,List.foldl_cons,b0r h,ih]
 exact key l []
theorem b9s {x:Rw} {L:List Rw} {y:Rw} (hs:T0 B5 (L++[y])) (h:B5 x y=false):∀z∈L++[y],B5 x z=false:=by
 intro z hz
 rcases List.mem_append.1 hz with hz|hz
 ·exact L7.neg x y z h ((E3.1 hs).2.2 z hz y (by simp))
 ·simp at hz;subst hz;exact h
theorem b0s {α:Type} (A R:List α) (x y:α) {k:Nat} (h:A.length=k):((A++y::x::R).set (k+1) y).set k x=A++x::y::R:=by
 subst h;rw[List.set_append_right _ _ (by omega),show A.length+1 - A.length=1 by omega,List.set_append_right _ _ (Nat.le_refl _),Nat.sub_self];rfl
theorem a5u {V:List Rw} {h:Nat} {y:Rw} (hs:T0 B5 V) (hy:V[h]?=some y):(∀z∈V.take h,B5 y z=false)/\∀z∈V.drop (h+1),B5 z y=false:=by
 obtain⟨hh,e⟩:=List.getElem?_eq_some_iff.1 hy
 have hsp:V=V.take h++y::V.drop (h+1):=by
  conv=>lhs;rw[<-List.take_append_drop h V,List.drop_eq_getElem_cons hh,e]
 rw[hsp] at hs;obtain⟨_,h2,h3⟩:=E3.1 hs;exact⟨λz hz=>h3 z hz y (List.mem_cons_self ..),λz hz=>(List.pairwise_cons.1 h2).1 z hz⟩
theorem b3G {V:List Rw} {h:Nat} {y u:Rw} (hs:T0 B5 V) (hy:V[h]?=some y) (hl:B5 y u=true):∀z∈V.take (h+1),B5 z u=true:=by
 intro z hz;rw[a6J hy] at hz
 rcases List.mem_append.1 hz with hz|hz
 ·exact a2k L7 ((a5u hs hy).1 z hz) hl
 ·simp at hz;subst hz;exact hl
theorem b0t {V:List Rw} {h:Nat} {y u:Rw} (hs:T0 B5 V) (hy:V[h]?=some y) (hl:B5 y u=false):∀z∈V.drop h,B5 z u=false:=by
 intro z hz;obtain⟨hh,e⟩:=List.getElem?_eq_some_iff.1 hy;rw[List.drop_eq_getElem_cons hh,e] at hz
 rcases List.mem_cons.1 hz with rfl|hz
 ·exact hl
 ·exact L7.neg z y u ((a5u hs hy).2 z hz) hl
theorem b3H {α:Type} (A R:List α) (x y:α) {k:Nat} (h:A.length=k):((A++x::y::R).set k y).set (k+1) x=A++y::x::R:=by
 subst h;rw[List.set_append_right _ _ (Nat.le_refl _),Nat.sub_self,List.set_cons_zero,List.set_append_right _ _ (by omega),show A.length+1 - A.length=1 by omega];rfl
theorem b1A {V:List Rw} {h:Nat} {y u:Rw} (hs:T0 B5 V) (hy:V[h]?=some y) (hl:B5 u y=false):∀z∈V.take (h+1),B5 u z=false:=by
 intro z hz;rw[a6J hy] at hz
 rcases List.mem_append.1 hz with hz|hz
 ·exact L7.neg u y z hl ((a5u hs hy).1 z hz)
 ·simp at hz;subst hz;exact hl
theorem a8Z {V:List Rw} {h:Nat} {y u:Rw} (hs:T0 B5 V) (hy:V[h]?=some y) (hl:B5 u y=true):∀z∈V.drop h,B5 u z=true:=by
 intro z hz;obtain⟨hh,e⟩:=List.getElem?_eq_some_iff.1 hy;rw[List.drop_eq_getElem_cons hh,e] at hz
 rcases List.mem_cons.1 hz with rfl|hz
 ·exact hl
 ·exact a2j L7 hl ((a5u hs hy).2 z hz)
theorem a2o {l:List Rw} (h:T0 B5 l) {i j:Nat} {x y:Rw} (hij:i<=j) (hx:l[i]?=some x) (hy:l[j]?=some y):B5 y x=false:=by
 rcases Nat.lt_or_ge i j with hlt|hge
 ·obtain⟨hi,ei⟩:=List.getElem?_eq_some_iff.1 hx;obtain⟨hj,ej⟩:=List.getElem?_eq_some_iff.1 hy;have:=List.pairwise_iff_getElem.1 h i j hi hj hlt;rw[ei,ej] at this;exact this
 ·obtain rfl:i=j:=by omega
  rw[hx] at hy;injection hy with hy;subst hy;exact L7.irr x
def a3m (a m b mid s0 r0:Nat):Prop:=(m<=mid/\s0=a/\r0=m)\/(mid<m/\s0+b=mid+m/\r0=mid)
def b55 (U V:List Rw) (a m p s0 s:Nat):Prop:=∀c x y,s0<=c->c<s->U[c - a]?=some x->V[p - c - m]?=some y->B5 y x=false
def b0u (U V:List Rw) (a m p r r0:Nat):Prop:=∀c x y,r<=c->c<r0->U[c - a]?=some x->V[p - c - m]?=some y->B5 y x=true
section
variable {U V:List Rw} {a m b mid p s0 r0:Nat}
theorem H2 (hw:a3m a m b mid s0 r0) (hmid:mid=(a+b) / 2) (ham:a<m) (hmb:m<b) {s:Nat} (h1:s0<=s) (h2:s<=r0):a<=s/\s<=m/\s<=mid/\m<=mid+m - s/\mid+m - s<=b/\mid<=mid+m - s:=by
 rcases hw with⟨h,rfl,rfl⟩|⟨h,h3,rfl⟩ <;> omega
theorem b7o (hU:T0 B5 U) (hV:T0 B5 V) (hw:a3m a m b mid s0 r0) (hmid:mid=(a+b) / 2) (ham:a<m) (hmb:m<b) (hp:p+1=mid+m) {c:Nat} {x y:Rw} (hc0:s0<=c) (hc:c<r0) (hx:U[c - a]?=some x) (hy:V[p - c - m]?=some y) (hl:B5 y x=false) :
  b55 U V a m p s0 (c+1):=by
 intro d x' y' hd hdc hx' hy';have b1:=H2 hw hmid ham hmb hc0 (Nat.le_of_lt hc);have b2:=H2 hw hmid ham hmb hd (by omega);have h1:=a2o hU (show d - a<=c - a by omega) hx' hx;have h2:=a2o hV (show p - c - m<=p - d - m by omega) hy hy';exact L7.neg _ _ _ (L7.neg _ _ _ h2 hl) h1
theorem b1B (hU:T0 B5 U) (hV:T0 B5 V) (hw:a3m a m b mid s0 r0) (hmid:mid=(a+b) / 2) (ham:a<m) (hmb:m<b) (hp:p+1=mid+m) {c:Nat} {x y:Rw} (hc0:s0<=c) (hc:c<r0) (hx:U[c - a]?=some x) (hy:V[p - c - m]?=some y) (hl:B5 y x=true) :
  b0u U V a m p c r0:=by
 intro d x' y' hd hdr hx' hy';have b1:=H2 hw hmid ham hmb hc0 (Nat.le_of_lt hc);have h1:=a2o hU (show c - a<=d - a by omega) hx hx';have h2:=a2o hV (show p - d - m<=p - c - m by omega) hy' hy;exact a2j L7 (a2k L7 h2 hl) h1
theorem b9t (hU:T0 B5 U) (hV:T0 B5 V) (hUl:U.length=m - a) (hVl:V.length=b - m) (hw:a3m a m b mid s0 r0) (hmid:mid=(a+b) / 2) (ham:a<m) (hmb:m<b) (hp:p+1=mid+m) {s:Nat} (h1:s0<=s) (h2:s<=r0) (hlo:b55 U V a m p s0 s) (hhi:b0u U V a m p s r0) :
  (∀x∈U.drop (s - a),∀y∈V.take (mid+m - s - m),B5 y x=true)/\∀x∈U.take (s - a),∀y∈V.drop (mid+m - s - m),B5 y x=false:=by
 have b0:=H2 hw hmid ham hmb h1 h2
 constructor
 ·intro x hx y hy;obtain⟨i,hi⟩:=List.mem_iff_getElem?.1 hx;obtain⟨j,hj⟩:=List.mem_iff_getElem?.1 hy;rw[List.getElem?_drop] at hi
  have hj2:j<mid+m - s - m/\V[j]?=some y:=by
   rw[List.getElem?_take] at hj
   split at hj
   ·exact⟨by omega,hj⟩
   ·cases hj
  have hiu:s - a+i<U.length:=(List.getElem?_eq_some_iff.1 hi).1
  by_cases hs:s<r0
  ·obtain⟨x0,hx0⟩:∃x0,U[s - a]?=some x0:=⟨_,List.getElem?_eq_getElem (by omega)⟩;obtain⟨y0,hy0⟩:∃y0,V[p - s - m]?=some y0:=⟨_,List.getElem?_eq_getElem (by omega)⟩;have h:=hhi s x0 y0 (Nat.le_refl _) hs hx0 hy0;exact a2j L7 (a2k L7 (a2o hV (show j<=p - s - m by omega) hj2.2 hy0) h) (a2o hU (show s - a<=s - a+i by omega) hx0 hi)
  ·rcases hw with⟨h,rfl,rfl⟩|⟨h,h3,rfl⟩ <;> omega
 ·intro x hx y hy;obtain⟨i,hi⟩:=List.mem_iff_getElem?.1 hx;obtain⟨j,hj⟩:=List.mem_iff_getElem?.1 hy;rw[List.getElem?_drop] at hj
  have hi2:i<s - a/\U[i]?=some x:=by
   rw[List.getElem?_take] at hi
   split at hi
   ·exact⟨by omega,hi⟩
   ·cases hi
  have hjv:mid+m - s - m+j<V.length:=(List.getElem?_eq_some_iff.1 hj).1
  by_cases hs:s0<s
  ·have b1:=H2 hw hmid ham hmb (s:=s - 1) (by omega) (by omega);obtain⟨x0,hx0⟩:∃x0,U[s - 1 - a]?=some x0:=⟨_,List.getElem?_eq_getElem (by omega)⟩;obtain⟨y0,hy0⟩:∃y0,V[p - (s - 1) - m]?=some y0:=⟨_,List.getElem?_eq_getElem (by omega)⟩;have h:=hlo (s - 1) x0 y0 (by omega) (by omega) hx0 hy0;exact L7.neg _ _ _ (L7.neg _ _ _ (a2o hV (show p - (s - 1) - m<=mid+m - s - m+j by omega) hy0 hj) h) (a2o hU (show i<=s - 1 - a by omega) hi2.2 hx0)
  ·rcases hw with⟨h,rfl,rfl⟩|⟨h,h3,rfl⟩ <;> omega
end
def a2p (bs:Nat) (bl:List (List Rw)):Prop:=∀x∈bl,x.length=bs/\T0 B5 x
theorem a6K {bs:Nat}:∀ {bl:List (List Rw)},a2p bs bl->bl.flatten.length=bl.length * bs
 | [],_=>by simp
 | x::bl,h=>by
  rw[List.flatten_cons,List.length_append,(h x (List.mem_cons_self ..)).1,a6K λy hy=>h y (List.mem_cons_of_mem _ hy),List.length_cons,Nat.succ_mul];omega
theorem a2p.snoc {bs:Nat} {bl:List (List Rw)} {x:List Rw} (h:a2p bs bl) (hx:x.length=bs/\T0 B5 x):a2p bs (bl++[x]):=λy hy=>by
 rcases List.mem_append.1 hy with hy|hy
 ·exact h y hy
 ·simp at hy;subst hy;exact hx
end
theorem c0O {x:Rw} (h:x.length=5):∃x0 x1 x2 x3 x4,x=[x0,x1,x2,x3,x4]:=by
 match x,h with
 | [x0,x1,x2,x3,x4],_=>exact⟨x0,x1,x2,x3,x4,rfl⟩
theorem a0p {α:Type} (a b:Nat):∀(k:Nat) (l:List α),∀x∈a0e a b k l,x∈l
 | 0,l,x,h=>h
 | k+1,l,x,h=>by
  unfold a0e at h
  split at h
  ·rename_i y z h1 h2
   rcases List.mem_or_eq_of_mem_set h with h|rfl
   ·rcases List.mem_or_eq_of_mem_set h with h|rfl
    ·exact a0p a b k l x h
    ·exact a0p a b k l _ (List.mem_of_getElem? h2)
   ·exact a0p a b k l _ (List.mem_of_getElem? h1)
  ·exact a0p a b k l x h
theorem b1C (rows:List Rw) (h5:∀x∈rows,x.length=5) (a b k fid:Nat) (hN:rows.length<=1048576) (hab:a+k<=b) (hb:b+k<=rows.length) :
  K3 119 [.own 0,vi .i64 a,vi .i64 b,vi .i64 k,.cl fid []] [.row false 74 rows] (λres os=>res=[]/\os=[.row false 74 (a0e a b k rows)]):=by
 obtain⟨za,hza⟩:∃z:Int,z=(a:Int):=⟨_,rfl⟩;obtain⟨zb,hzb⟩:∃z:Int,z=(b:Int):=⟨_,rfl⟩;obtain⟨zk,hzk⟩:∃z:Int,z=(k:Int):=⟨_,rfl⟩;rw[<-hza,<-hzb,<-hzk];obtain⟨S,hS⟩:∃S,S=a0e a b k rows:=⟨_,rfl⟩;rw[<-hS];refine Z9 Tryz.func119 rfl (by kernel_rfl) (by kernel_rfl) (by kernel_rfl) rfl rfl (by rintro _ _ ⟨_,rfl⟩;rfl) ?_;intro qa qb _ _ _ _ _ qh _ _ _ _ _ _ _ _ _ _ _ _ _ _ _ va _ _ ve;intros;rename_i hA K hK;cbv;refine gn ?_;obtain⟨e1,e2,e3,e4,e5,e6,e7,e8,e9⟩:=l7 hA;obtain⟨r1,r2,r3,r4⟩:=n8 hA;obtain⟨m1,m2,m3,m4⟩:=a2a hA;replace hza:za=(a:Int):=hza;replace hzb:zb=(b:Int):=hzb;replace hzk:zk=(k:Int):=hzk;refine o5 hA (γ:=Int×List (List D)) (λx=>[(10,vi .i64 x.1),(29,.jk),(35,.jk)]) (λx=>[(0,.row false 74 x.2)]) (λx=>∃j:Nat,x.1=(j:Int)/\j<=k/\x.2=a0e a b j rows) (λx=>k - x.1.toNat) (0,rows) ?_ ?_ ?_
 ·exact⟨0,rfl,Nat.zero_le _,rfl⟩
 ·cbv
 ·intro x hinv;obtain⟨z,L⟩:=x;cbv;refine gn ?_;obtain⟨j,hz,hj,hL⟩:=hinv;replace hz:z=(j:Int):=hz;replace hza:za=(a:Int):=hza;replace hzb:zb=(b:Int):=hzb;replace hzk:zk=(k:Int):=hzk;replace hL:L=a0e a b j rows:=hL;have hlt:qh z zk=decide (j<k):=by rw[e7,hz,hzk];exact decide_eq_decide.2 (by omega)
  by_cases h9:j<k
  ·rw[decide_eq_true h9] at hlt;have hLl:L.length=rows.length:=by rw[hL,a25]
   obtain⟨x,hx⟩:∃x,L[a+j]?=some x:=⟨_,List.getElem?_eq_getElem (by omega)⟩;obtain⟨y,hy⟩:∃y,L[b+j]?=some y:=⟨_,List.getElem?_eq_getElem (by omega)⟩;have hx5:=h5 x (a0p a b j rows x (by rw[<-hL];exact List.mem_of_getElem? hx));have hy5:=h5 y (a0p a b j rows y (by rw[<-hL];exact List.mem_of_getElem? hy));obtain⟨x0,x1,x2,x3,x4,rfl⟩:=c0O hx5;obtain⟨y0,y1,y2,y3,y4,rfl⟩:=c0O hy5;have wa:qa .i64 (qb za z)=((a+j:Nat):Int):=by rw[e1,e2,hza,hz,IntWalk.i64_in _ (by omega)];omega
   have wb:qa .i64 (qb zb z)=((b+j:Nat):Int):=by rw[e1,e2,hzb,hz,IntWalk.i64_in _ (by omega)];omega
   have g1:va L (qa .i64 (qb zb z))=some [y0,y1,y2,y3,y4]:=by rw[wb,r2,if_pos (by omega),Int.toNat_natCast];exact hy
   have g2:va L (qa .i64 (qb za z))=some [x0,x1,x2,x3,x4]:=by rw[wa,r2,if_pos (by omega),Int.toNat_natCast];exact hx
   have g3:∀v,va (ve L (qa .i64 (qb za z)) v) (qa .i64 (qb zb z))=some [y0,y1,y2,y3,y4]:=λv=>by rw[wb,wa,r2,if_pos (by omega),m4,Int.toNat_natCast,Int.toNat_natCast,List.getElem?_set_ne (by omega)];exact hy
   have hsw:a0e a b (j+1) rows=(L.set (a+j) [y0,y1,y2,y3,y4]).set (b+j) [x0,x1,x2,x3,x4]:=by
    rw[a0e,<-hL,hx,hy]
   rw[hlt];cbv;refine gn ?_
   repeat (first|(rw[g1];cbv)|(rw[g2];cbv)|(rw[g3];cbv)|(with_reducible apply j2 hA;cbv))
   replace hz:z=(j:Int):=hz;have hz1:qa .i64 (qb z 1)=((j+1:Nat):Int):=by rw[e1,e2,hz,IntWalk.i64_in _ (by omega)];omega
   refine⟨(qa .i64 (qb z 1),ve (ve L (qa .i64 (qb za z)) [y0,y1,y2,y3,y4]) (qa .i64 (qb zb z)) [x0,x1,x2,x3,x4]),⟨j+1,hz1,h9,?_⟩,?_,?_⟩
   ·show ve (ve L _ _) _ _=_;rw[m4,m4,wa,wb,Int.toNat_natCast,Int.toNat_natCast,hsw]
   ·show k - (qa .i64 (qb z 1)).toNat<k - z.toNat;rw[hz1,hz];omega
   ·cbv
  ·rw[decide_eq_false h9] at hlt;rw[hlt];cbv;refine gn ?_;have hjk:j=k:=by omega
   exact hK [] [.row false 74 L] ⟨rfl,by rw[hS,<-hjk,<-hL]⟩
theorem b56 (P X Y S:List Rw) (h5:∀x∈P++(X++(Y++S)),x.length=5) (fid:Nat) (hN:(P++(X++(Y++S))).length<=1048576) (hx:0<X.length) (hy:0<Y.length) :
  K3 118 [.own 0,vi .i64 P.length,vi .i64 (P.length+X.length:Nat),vi .i64 (P.length+X.length+Y.length:Nat),.cl fid []] [.row false 74 (P++(X++(Y++S)))] (λres os=>res=[]/\os=[.row false 74 (P++(Y++(X++S)))]):=by
 obtain⟨za,hza⟩:∃z:Int,z=(P.length:Int):=⟨_,rfl⟩;obtain⟨zm,hzm⟩:∃z:Int,z=((P.length+X.length:Nat):Int):=⟨_,rfl⟩;obtain⟨zb,hzb⟩:∃z:Int,z=((P.length+X.length+Y.length:Nat):Int):=⟨_,rfl⟩;obtain⟨L,hL⟩:∃L,L=P++(X++(Y++S)):=⟨_,rfl⟩;obtain⟨M,hM⟩:∃M,M=P++(Y++(X++S)):=⟨_,rfl⟩;rw[<-hza,<-hzm,<-hzb,<-hM,<-hL];rw[<-hL] at h5 hN;have hLl:L.length=P.length+X.length+Y.length+S.length:=by rw[hL];simp only[List.length_append];omega
 refine Z9 Tryz.func118 rfl (by kernel_rfl) (by kernel_rfl) (by kernel_rfl) rfl rfl (by rintro _ _ ⟨_,rfl⟩;rfl) ?_;intro qa qb qc _ _ _ _ qh _ qj;intros;rename_i hA K hK;cbv;refine gn ?_;try simp only[nc] at *
 obtain⟨e1,e2,e3,e4,e5,e6,e7,e8,e9⟩:=l7 hA;have wi:qa .i64 (qc zm za)=(X.length:Int):=by rw[e1,e3,hza,hzm,IntWalk.i64_in _ (by omega)];omega
 have wj:qa .i64 (qc zb zm)=(Y.length:Int):=by rw[e1,e3,hzb,hzm,IntWalk.i64_in _ (by omega)];omega
 refine o5 hA (γ:=Int×Int×List (List D)) (λx=>[(10,vi .i64 x.1),(11,vi .i64 x.2.1)]) (λx=>[(0,.row false 74 x.2.2)])
  (λx=>∃P' X' Y' S':List Rw,0<X'.length/\0<Y'.length/\P'.length+X'.length=P.length+X.length/\x.1=(X'.length:Int)/\x.2.1=(Y'.length:Int)/\P'++(Y'++(X'++S'))=M/\x.2.2=P'++(X'++(Y'++S'))/\x.2.2.length=L.length/\∀r∈x.2.2,r.length=5) (λx=>x.1.toNat+x.2.1.toNat) (qa .i64 (qc zm za),qa .i64 (qc zb zm),L) ?_ ?_ ?_
 ·exact⟨P,X,Y,S,hx,hy,rfl,wi,wj,hM.symm,hL,rfl,h5⟩
 ·cbv
 ·intro x hinv;obtain⟨zi,zj,Q⟩:=x;cbv;refine gn ?_;try simp only[nc] at *
  obtain⟨P',X',Y',S',hx',hy',hm,hi,hj,he,hQ,hQl,hQ5⟩:=hinv;replace hQ:Q=P'++(X'++(Y'++S')):=hQ;replace hQl:Q.length=L.length:=hQl;have hQl2:Q.length=P'.length+X'.length+Y'.length+S'.length:=by rw[hQ];simp only[List.length_append];omega
  have heq:qj zi zj=(zi == zj):=e9 _ _;have hgt:qh zj zi=decide (Y'.length<X'.length):=by rw[e7,hi,hj];exact decide_eq_decide.2 (by omega)
  have wp:qa .i64 (qc zm zi)=(P'.length:Int):=by rw[e1,e3,hzm,hi,IntWalk.i64_in _ (by omega)];omega
  by_cases hij:X'.length=Y'.length
  ·have h1:qj zi zj=true:=by rw[heq,hi,hj,hij];exact beq_self_eq_true _
   have hsp:=a2n P' X' [] Y' S' hij;rw[List.nil_append,List.nil_append,<-hQ,he,List.length_nil,Nat.add_zero] at hsp;have hsw:=b1C Q hQ5 P'.length (P'.length+X'.length) X'.length fid (by omega) (Nat.le_refl _) (by omega);rw[hsp,<-wp,hm,<-hzm,<-hi] at hsw;rw[h1];cbv;refine gn ?_;try simp only[nc] at *
   refine E7 hA [0] hsw ⟨rfl,rfl,rfl,rfl,rfl,rfl,rfl⟩ ?_
   rintro res os2 ⟨rfl,rfl⟩
   cbv;refine gn ?_;try simp only[nc] at *
   exact hK [] [.row false 74 M] ⟨rfl,rfl⟩
  ·have h1:qj zi zj=false:=by rw[heq,hi,hj,beq_eq_false_iff_ne];omega
   rw[h1];cbv;refine gn ?_;try simp only[nc] at *
   by_cases hlt:Y'.length<X'.length
   ·rw[decide_eq_true hlt] at hgt;obtain⟨X1,X2,hX,hX1⟩:=a02 (l:=X') (n:=Y'.length) (by omega);have hX2:Y'.length+X2.length=X'.length:=by rw[hX,List.length_append];omega
    have hsp:=a2n P' X1 X2 Y' S' hX1;have hQ2:P'++(X1++(X2++(Y'++S')))=Q:=by rw[hQ,hX];simp only[List.append_assoc]
    rw[hQ2,hX1] at hsp;have hsw:=b1C Q hQ5 P'.length (P'.length+Y'.length+X2.length) Y'.length fid (by omega) (by omega) (by omega);rw[hsp,show P'.length+Y'.length+X2.length=P.length+X.length by omega,<-wp,<-hzm,<-hj] at hsw;rw[hgt];cbv;refine gn ?_;try simp only[nc] at *
    refine E7 hA [0] hsw ⟨rfl,rfl,rfl,rfl,rfl,rfl,rfl⟩ ?_
    rintro res os2 ⟨rfl,rfl⟩
    cbv;refine gn ?_;try simp only[nc] at *
    have wz:qa .i64 (qc zi zj)=(X2.length:Int):=by rw[e1,e3,hi,hj,IntWalk.i64_in _ (by omega)];omega
    have hmu:(qa .i64 (qc zi zj)).toNat+zj.toNat<zi.toNat+zj.toNat:=by rw[wz,hi,hj];omega
    refine⟨(qa .i64 (qc zi zj),zj,P'++(Y'++(X2++(X1++S')))),⟨P'++Y',X2,X1,S',by omega,by omega,by rw[List.length_append];omega,wz,by rw[hX1];exact hj,?_,by simp only[List.append_assoc],?_,?_⟩,hmu,?_⟩
    ·rw[<-he,hX];simp only[List.append_assoc]
    ·show (P'++(Y'++(X2++(X1++S')))).length=L.length;rw[<-hQl,<-hQ2];simp only[List.length_append];omega
    ·intro r hr;refine hQ5 r ?_;rw[<-hQ2];simp only[List.mem_append] at hr ⊢
     grind
    ·cbv
   ·rw[decide_eq_false hlt] at hgt;obtain⟨Y1,Y2,hY,hY1⟩:=a02 (l:=Y') (n:=Y'.length - X'.length) (by omega);have hY2:Y2.length=X'.length:=by have:=congrArg List.length hY;rw[List.length_append] at this;omega
    have hsp:=a2n P' X' Y1 Y2 S' hY2.symm;have hQ2:P'++(X'++(Y1++(Y2++S')))=Q:=by rw[hQ,hY];simp only[List.append_assoc]
    rw[hQ2] at hsp;have hsw:=b1C Q hQ5 P'.length (P'.length+X'.length+Y1.length) X'.length fid (by omega) (by omega) (by omega)
    have wq:qa .i64 (qc (qa .i64 (qb zm zj)) zi)=((P'.length+X'.length+Y1.length:Nat):Int):=by
     have h2:qa .i64 (qb zm zj)=((P.length+X.length+Y'.length:Nat):Int):=by rw[e1,e2,hzm,hj,IntWalk.i64_in _ (by omega)];omega
     rw[h2,e1,e3,hi,IntWalk.i64_in _ (by omega)];omega
    rw[hsp,<-wp,<-wq,<-hi] at hsw;rw[hgt];cbv;refine gn ?_;try simp only[nc] at *
    refine E7 hA [0] hsw ⟨rfl,rfl,rfl,rfl,rfl,rfl,rfl⟩ ?_
    rintro res os2 ⟨rfl,rfl⟩
    cbv;refine gn ?_;try simp only[nc] at *
    have wz:qa .i64 (qc zj zi)=(Y1.length:Int):=by rw[e1,e3,hi,hj,IntWalk.i64_in _ (by omega)];omega
    have hmu:zi.toNat+(qa .i64 (qc zj zi)).toNat<zi.toNat+zj.toNat:=by rw[wz,hi,hj];omega
    refine⟨(zi,qa .i64 (qc zj zi),P'++(Y2++(Y1++(X'++S')))),⟨P',Y2,Y1,X'++S',by omega,by omega,by omega,by rw[hY2];exact hi,wz,?_,rfl,?_,?_⟩,hmu,?_⟩
    ·rw[<-he,hY];simp only[List.append_assoc]
    ·show (P'++(Y2++(Y1++(X'++S')))).length=L.length;rw[<-hQl,<-hQ2];simp only[List.length_append];omega
    ·intro r hr;refine hQ5 r ?_;rw[<-hQ2];simp only[List.mem_append] at hr ⊢
     grind
    ·cbv
def a2C (a b:List UInt8):Int:=if Op.bytesLess a b=true then -1 else if Op.bytesLess b a=true then 1 else 0
theorem a3Q (a b:List UInt8):decide (a2C a b<0)=Op.bytesLess a b:=by
 unfold a2C
 split
 ·simp_all
 ·split <;> simp_all
def a9a (fid:Nat):Prop:=∀(n m:ByteArray) (x1 x2 x3 x4 y1 y2 y3 y4:D),j5 fid [.ag [.sc (.string n),x1,x2,x3,x4],.ag [.sc (.string m),y1,y2,y3,y4]] [.one (.sc (.int .i64 (a2C n.toList m.toList)))]
def Ok5 (x:Rw):Prop:=∃n x1 x2 x3 x4,x=[.sc (.string n),x1,x2,x3,x4]
theorem Ok5.len {x:Rw} (h:Ok5 x):x.length=5:=by obtain⟨n,x1,x2,x3,x4,rfl⟩:=h;rfl
theorem b1D (l:List Rw) (x:Rw) {m:List Rw} (hs:T0 B5 m) (ht:Z0 B5 m (j9 B5 l++[x])):m=j9 B5 (l++[x]):=a8S L7 hs (ht.trans (Z0.append (a0b L7 l) (.refl _)))
theorem b0v (fid:Nat) (hc:a9a fid) (P D S:List Rw) (h5:∀x∈P++(D++S),Ok5 x) (hN:(P++(D++S)).length<=1048576) :
  K3 115 [.own 0,vi .i64 P.length,vi .i64 (P.length+D.length:Nat),.cl fid []] [.row false 74 (P++(D++S))] (λres os=>res=[]/\os=[.row false 74 (P++(j9 B5 D++S))]):=by
 obtain⟨za,hza⟩:∃z:Int,z=(P.length:Int):=⟨_,rfl⟩;obtain⟨zb,hzb⟩:∃z:Int,z=((P.length+D.length:Nat):Int):=⟨_,rfl⟩;obtain⟨L,hL⟩:∃L,L=P++(D++S):=⟨_,rfl⟩;obtain⟨M,hM⟩:∃M,M=P++(j9 B5 D++S):=⟨_,rfl⟩;rw[<-hza,<-hzb,<-hM,<-hL];rw[<-hL] at h5 hN;have hLl:L.length=P.length+D.length+S.length:=by rw[hL];simp only[List.length_append];omega
 refine Z9 Tryz.func115 rfl (by kernel_rfl) (by kernel_rfl) (by kernel_rfl) rfl rfl (by rintro _ _ ⟨_,rfl⟩;rfl) ?_;intro qa qb qc _ _ _ _ qh _ _ _ _ _ _ _ _ _ _ _ _ _ _ _ va _ _ ve;intros;rename_i hA K hK;cbv;refine gn ?_;try simp only[nc] at *
 obtain⟨e1,e2,e3,e4,e5,e6,e7,e8,e9⟩:=l7 hA;obtain⟨r1,r2,r3,r4⟩:=n8 hA;obtain⟨m1,m2,m3,m4⟩:=a2a hA;have wi:qa .i64 (qb za 1)=((P.length+1+0:Nat):Int):=by rw[e1,e2,hza,IntWalk.i64_in _ (by omega)];omega
 refine o5 hA (γ:=Int×List Rw) (λx=>[(8,vi .i64 x.1)]) (λx=>[(0,.row false 74 x.2)])
  (λx=>∃k:Nat,x.1=((P.length+1+k:Nat):Int)/\(k=0\/k+1<=D.length)/\x.2=P++(j9 B5 (D.take (k+1))++(D.drop (k+1)++S))/\x.2.length=L.length/\∀r∈x.2,r∈L) (λx=>L.length+1 - x.1.toNat) (qa .i64 (qb za 1),L) ?_ ?_ ?_
 ·refine⟨0,wi,.inl rfl,?_,rfl,λr h=>h⟩
  have:j9 B5 (D.take 1)=D.take 1:=by
   cases D with
   | nil=>rfl
   | cons d D=>rfl
  show L=_;rw[this,hL,<-List.append_assoc (D.take 1),List.take_append_drop]
 ·cbv
 ·intro x hinv;obtain⟨z,Q⟩:=x;cbv;refine gn ?_;try simp only[nc] at *
  obtain⟨k,hz,hk,hQ,hQl,hQm⟩:=hinv;have hlt:qh z zb=decide (k+1<D.length):=by rw[e7,hz,hzb];exact decide_eq_decide.2 (by omega)
  by_cases h9:k+1<D.length
  ·rw[decide_eq_true h9] at hlt;obtain⟨x,hx⟩:∃x,D[k+1]?=some x:=⟨_,List.getElem?_eq_getElem h9⟩;obtain⟨hxi,hxe⟩:=List.getElem?_eq_some_iff.1 hx;obtain⟨D1,hD1⟩:∃D1,D1=D.take (k+1):=⟨_,rfl⟩;obtain⟨D2,hD2⟩:∃D2,D2=D.drop (k+1+1):=⟨_,rfl⟩;have hdrop:D.drop (k+1)=x::D2:=by rw[hD2,List.drop_eq_getElem_cons hxi,hxe]
   have htake:D.take (k+1+1)=D1++[x]:=by rw[hD1];exact a6J hx
   rw[<-hD1,hdrop] at hQ;obtain⟨E,hE⟩:∃E,E=j9 B5 D1:=⟨_,rfl⟩;rw[<-hE] at hQ;have hEl:E.length=k+1:=by rw[hE,N0,hD1,List.length_take];omega
   have hEs:T0 B5 E:=by rw[hE];exact N9 L7 D1
   have hxm:x∈L:=hQm x (by rw[hQ];simp);obtain⟨nx,x1,x2,x3,x4,hxx⟩:=h5 x hxm;rw[hlt];cbv;refine gn ?_;try simp only[nc] at *
   refine o5 hA (γ:=Int×List Rw) (λx=>[(9,vi .i64 x.1)]) (λx=>[(0,.row false 74 x.2)])
    (λy=>∃L1 L2:List Rw,y.1=((P.length+L1.length:Nat):Int)/\E=L1++L2/\(∀r∈L2,B5 x r=true)/\y.2=P++(L1++(x::(L2++(D2++S))))/\y.2.length=L.length/\∀r∈y.2,r∈L) (λy=>y.1.toNat) (z,Q) ?_ ?_ ?_
   ·exact⟨E,[],by rw[hEl];show z=_;rw[hz];congr 1;omega,by simp,by simp,by rw[hQ];simp,hQl,hQm⟩
   ·cbv
   ·intro y hinv;obtain⟨zj,N⟩:=y;cbv;refine gn ?_;try simp only[nc] at *
    obtain⟨L1,L2,hj,hEE,hL2,hNN,hNl,hNm⟩:=hinv;have hLAST:=λ(h1:∀y∈L1,B5 x y=false)=>a2Q L7 (x:=x) (u1:=L1) (u2:=L2) (by rw[<-hEE];exact hEs) h1 hL2
    have hNl2:N.length=P.length+L1.length+1+L2.length+D2.length+S.length:=by rw[hNN];simp only[List.length_append,List.length_cons];omega
    have hz1:qa .i64 (qb z 1)=((P.length+1+(k+1):Nat):Int):=by rw[e1,e2,hz,IntWalk.i64_in _ (by omega)];omega
    have hmz:L.length+1 - (qa .i64 (qb z 1)).toNat<L.length+1 - z.toNat:=by rw[hz1,hz];omega
    have hdone:(∀y∈L1,B5 x y=false)->N=P++(j9 B5 (D.take (k+1+1))++(D.drop (k+1+1)++S)):=λh=>by
     obtain⟨h1,h2⟩:=hLAST h;have h3:L1++x::L2=j9 B5 (D1++[x]):=b1D D1 x h1 (by rw[<-hE,hEE];exact h2);rw[htake,<-hD2,<-h3,hNN]
     simp
    rcases (show L1=[]\/∃L y,L1=L++[y] by simpa [List.concat_eq_append] using List.eq_nil_or_concat L1) with hnil|⟨L0,y,hsn⟩
    ·have hlt2:qh za zj=false:=by rw[e7,hza,hj,hnil];simp
     rw[hlt2];cbv;refine gn ?_;try simp only[nc] at *
     refine⟨(qa .i64 (qb z 1),N),⟨k+1,hz1,.inr h9,hdone (by rw[hnil];simp),hNl,hNm⟩,hmz,?_⟩;cbv
    ·have hl1:L1.length=L0.length+1:=by rw[hsn];simp
     have hlt2:qh za zj=true:=by rw[e7,hza,hj];exact decide_eq_true (by omega)
     have hym:y∈L:=hNm y (by rw[hNN,hsn];simp);obtain⟨ny,y1,y2,y3,y4,hyy⟩:=h5 y hym;have wj:qa .i64 (qc zj 1)=((P.length+L0.length:Nat):Int):=by rw[e1,e3,hj,IntWalk.i64_in _ (by omega)];omega
     have hNP:N=(P++L0)++y::x::(L2++(D2++S)):=by rw[hNN,hsn];simp
     have hpl:(P++L0).length=P.length+L0.length:=List.length_append
     have gx:va N zj=some [.sc (.string nx),x1,x2,x3,x4]:=by
      rw[r2,if_pos (by omega),hj,Int.toNat_natCast,hNP,List.getElem?_append_right (by omega),hpl,show P.length+L1.length - (P.length+L0.length)=1 by omega,<-hxx];rfl
     have gy:va N (qa .i64 (qc zj 1))=some [.sc (.string ny),y1,y2,y3,y4]:=by
      rw[wj,r2,if_pos (by omega),Int.toNat_natCast,hNP,List.getElem?_append_right (by omega),hpl,Nat.sub_self,<-hyy];rfl
     have gy2:∀v,va (ve N zj v) (qa .i64 (qc zj 1))=some [.sc (.string ny),y1,y2,y3,y4]:=λv=>by
      rw[<-gy,r2,r2,m4,wj,hj,Int.toNat_natCast,Int.toNat_natCast,List.getElem?_set_ne (by omega)]
     have hcmp:=hc nx ny x1 x2 x3 x4 y1 y2 y3 y4;have hneg:qh (a2C nx.toList ny.toList) 0=B5 x y:=by rw[e7,a3Q,hxx,hyy];rfl
     generalize a2C nx.toList ny.toList=cv at *;rw[hlt2];cbv;refine gn ?_;try simp only[nc] at *
     repeat (first|(rw[gx];cbv)|(rw[gy];cbv)|(with_reducible apply j2 hA;cbv))
     refine j4 hA _ hcmp ?_;cbv;cases hb:B5 x y
     ·rw[hb] at hneg;rw[hneg];cbv;refine gn ?_;try simp only[nc] at *
      refine⟨(qa .i64 (qb z 1),N),⟨k+1,hz1,.inr h9,hdone ?_,hNl,hNm⟩,hmz,?_⟩
      ·rw[hsn];exact b9s (by rw[<-hsn];exact(E3.1 (by rw[<-hEE];exact hEs)).1) hb
      ·cbv
     ·rw[hb] at hneg;rw[hneg];cbv;refine gn ?_;try simp only[nc] at *
      repeat (first|(rw[gx];cbv)|(rw[gy];cbv)|(rw[gy2];cbv)|(with_reducible apply j2 hA;cbv))
      try simp only[nc] at *
      refine⟨(qa .i64 (qc zj 1),ve (ve N zj [.sc (.string ny),y1,y2,y3,y4]) (qa .i64 (qc zj 1)) [.sc (.string nx),x1,x2,x3,x4]),⟨L0,y::L2,wj,by rw[hEE,hsn];simp,?_,?_,?_,?_⟩,?_,?_⟩
      ·intro r hr
       rcases List.mem_cons.1 hr with rfl|hr
       ·exact hb
       ·exact hL2 r hr
      ·show ve (ve N zj _) _ _=_;rw[m4,m4,wj,hj,Int.toNat_natCast,Int.toNat_natCast,hNP,<-hxx,<-hyy,show P.length+L1.length=P.length+L0.length+1 by omega,b0s _ _ _ _ hpl]
       simp
      ·show (ve (ve N zj _) _ _).length=_;rw[m4,m4,List.length_set,List.length_set];exact hNl
      ·intro r hr;have hr:r∈ve (ve N zj [.sc (.string ny),y1,y2,y3,y4]) (qa .i64 (qc zj 1)) [.sc (.string nx),x1,x2,x3,x4]:=hr;rw[m4,m4,<-hxx,<-hyy] at hr
       rcases List.mem_or_eq_of_mem_set hr with hr|rfl
       ·rcases List.mem_or_eq_of_mem_set hr with hr|rfl
        ·exact hNm r hr
        ·exact hym
       ·exact hxm
      ·show (qa .i64 (qc zj 1)).toNat<zj.toNat;rw[wj,hj];omega
      ·cbv
  ·rw[decide_eq_false h9] at hlt;rw[hlt];cbv;refine gn ?_;try simp only[nc] at *
   have e:Q=M:=by rw[hQ,hM,List.take_of_length_le (by omega),List.drop_eq_nil_of_le (by omega)];rfl
   rw[e];exact hK [] [.row false 74 M] ⟨rfl,rfl⟩
end Go.Proofs.YtncijebklnbhlaaGreatDoor.Vm
end
