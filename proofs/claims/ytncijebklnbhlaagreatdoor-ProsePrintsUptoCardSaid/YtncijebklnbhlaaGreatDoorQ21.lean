/- Part 21 of the proof. Conditions: none. -/
import Derived.Test.YtncijebklnbhlaaGreatDoorQ19
set_option linter.all false
set_option linter.unusedVariables false
set_option linter.unusedSimpArgs false
section
namespace Go.Proofs.YtncijebklnbhlaaGreatDoor.Vm
open Go.RowKit
set_option maxRecDepth 100000
set_option maxHeartbeats 4000000
theorem b3W:∀t:Tm,(l4 t).length<=1048576->(∀x∈l4 t,SmT x)->∀arms:Bool,j5 21 [.ag (cM t),.one (.sc (.bool arms))] [.one (.sc (.bool (rtM GA arms t)))]:=by
  intro t
  induction t using Tm.ind with
  | h op nm ar n b a ks ih =>
    intro hN hS arms;have hself:SmT (.mk op nm ar n b a ks):=hS _ (by rw[l4];exact List.mem_cons_self ..);obtain⟨hSa,hSn,hSr⟩:=hself
    have hkn:∀k∈ks,(l4 k).length<=1048576/\∀x∈l4 k,SmT x:=λk hk=>by
      have hsub:∀x∈l4 k,x∈l4 (.mk op nm ar n b a ks):=λx hx=>by
        rw[l4,I3];exact List.mem_cons_of_mem _ (List.mem_flatMap.2 ⟨k,hk,hx⟩)
      refine⟨?_,λx hx=>hS x (hsub x hx)⟩;obtain⟨i,hi⟩:=List.mem_iff_getElem?.1 hk;have h1:(l4 (.mk op nm ar n b a ks)).length=1+(ks.flatMap l4).length:=by rw[l4,I3,List.length_cons];omega
      have h2:((ks.take (i+1)).flatMap l4).length=((ks.take i).flatMap l4).length+(l4 k).length:=by
        rw[List.take_succ,hi,List.flatMap_append,List.length_append]
        simp
      have h3:(ks.flatMap l4).length=((ks.take (i+1)).flatMap l4).length+((ks.drop (i+1)).flatMap l4).length:=by
        conv=>lhs;rw[<-List.take_append_drop (i+1) ks,List.flatMap_append,List.length_append]
      omega
    have hkl:ks.length<=1048576:=by
      have h1:(l4 (.mk op nm ar n b a ks)).length=1+(ks.flatMap l4).length:=by rw[l4,I3,List.length_cons];omega
      have:=a5w l4 r9 ks;omega
    have hcp:=λk hk arms=>ih k hk (hkn k hk).1 (hkn k hk).2 arms
    have k0:=b5Z op;have k1:=b5Y op nm ar n b a ks;have hno:=λv hv=>b7K op nm ar n b a ks v hv hSa hSa.1 hSa.2
    have hn1:=λc=>b2W ar (by omega) c
    have hn2:=λc=>b2W nm (by omega) c
    have hsg:=b7J nm
    have hst:∀k x,ks[k]?=some x->ks.drop k=x::ks.drop (k+1):=λk x hx=>by
      obtain⟨hi,e⟩:=List.getElem?_eq_some_iff.1 hx;rw[List.drop_eq_getElem_cons hi,e]
    clear ih hN hS hkn;obtain⟨T,hT⟩:∃T,T=rtM GA arms (.mk op nm ar n b a ks):=⟨_,rfl⟩;rw[<-hT];rw[rtM] at hT;unfold ndB at hT;unfold shD at k0;obtain⟨a0,a1,a2,a3,haa⟩:=l6 a;rw[cM,haa] at k1 hno ⊢;obtain⟨K,hK⟩:∃K,K=rM ks:=⟨_,rfl⟩;rw[<-hK] at k1 hno ⊢;cases hs:shM op with
    | none =>
      rw[hs] at hT k0;have hT:T=false:=hT;rw[hT];dsimp only at k0;refine C2 Tryz.func21 rfl λqa qb qc qd qe qf qg qh qi qj qk ql qm qo qp qq qt qu qv qw qx qy qz va vc vd ve vf vg vh vj vk vl vm vn vo vp vq vr vt vu vv vw hA=>?_
      cbv;exact fr
    | some q =>
      obtain⟨x,y,c,v⟩:=q;obtain⟨hv,hc⟩:=b6d hs;obtain⟨h99,h98⟩:=b6e hs;rw[hs] at hT k0;dsimp only at hT k0;have h2:=hno v hv;have h3:=hn1 y;have k2:=hn2 x;have h4:=hsg;rw[show (x9 a 116 && a14 a)=GA a from rfl] at h2;clear hno hn1 hn2 hs hsg hSa hSn hSr;have hl:(K.length:Int)=(ks.length:Int):=by rw[hK,a2i]
      have hget:∀(k:Nat) x,ks[k]?=some x->j1.get K (k:Int)=some (cM x):=λk x hx=>by
        show (if (0:Int)<=(k:Int) then K[((k:Int)).toNat]? else none)=_;rw[if_pos (by omega),show ((k:Int)).toNat=k by omega,hK];exact B4 hx
      obtain⟨cz,hcz⟩:∃cz:Int,cz=(if c=99 then -1 else (c:Int)):=⟨_,rfl⟩;rw[<-hcz] at k0
      have hkc:(if c=99 then decide (0<ks.length) else ks.length == c)=(if (op == 48)=true then !((ks.length:Int) == 0) else ((ks.length:Int) == cz)):=by
        by_cases h48:op=48
        · rw[if_pos (h99 h48),h48,if_pos (show ((48:Int) == 48)=true from rfl)]
          by_cases h0:ks.length=0
          · rw[h0];rfl
          · rw[decide_eq_true (by omega),beq_false_of_ne (by omega)];rfl
        · rw[if_neg (h98 h48),if_neg (by simpa using h48),hcz,if_neg (h98 h48),Bool.eq_iff_iff,beq_iff_eq,beq_iff_eq]
          omega
      have hcq:(op=48->cz=-1)/\(op≠48->0<=cz):=⟨λe=>by rw[hcz,if_pos (h99 e)],λe=>by rw[hcz,if_neg (h98 e)];omega⟩;rw[hkc] at hT
      have hop:(if op=40 then a12.any λs=>s.data.toList == nm.data.toList else T9 nm x)=(if (op == 40)=true then a12.any λs=>s.data.toList == nm.data.toList else T9 nm x):=by
        by_cases h:op=40
        · rw[if_pos h,if_pos (by rw[h];rfl)]
        · rw[if_neg h,if_neg (by rw[beq_false_of_ne h];decide)]
      rw[hop] at hT;clear hkc hop hcz h99 h98;generalize (if op=33 then decide (0<=n) else if op=34 then n == 0 || n == 1 else n == 0)=nb at *;generalize (if b=true then decide (0<v) && GA a else decide (v<2) && J7 a)=nt at *;generalize T9 ar y=ny at *;generalize T9 nm x=nx' at *;generalize (a12.any λs=>s.data.toList == nm.data.toList)=sg at *;obtain⟨e1,he1⟩:∃e,e=(op == 49):=⟨_,rfl⟩;obtain⟨e2,he2⟩:∃e,e=(op == 50):=⟨_,rfl⟩;obtain⟨e3,he3⟩:∃e,e=(op == 40):=⟨_,rfl⟩;obtain⟨cs,he4⟩:∃e,e=(op == 48):=⟨_,rfl⟩
      have key:(e1=true/\e2=false/\e3=false/\cs=false)\/(e1=false/\e2=true/\e3=false/\cs=false)\/(e1=false/\e2=false/\e3=true/\cs=false)\/(e1=false/\e2=false/\e3=false/\cs=true)\/(e1=false/\e2=false/\e3=false/\cs=false):=by
        rw[he1,he2,he3,he4];simp only[beq_iff_eq,beq_eq_false_iff_ne];omega
      rw[<-he1,<-he2,<-he3,<-he4] at hT;obtain⟨R,hR⟩:∃R,R=rtK GA cs true ks:=⟨_,rfl⟩;rw[<-hR] at hT;obtain⟨N,hNl⟩:∃N:Int,N=(ks.length:Int):=⟨_,rfl⟩;rw[<-hNl] at hT hl;obtain⟨vz,hvz⟩:∃vz:Int,vz=(v:Int):=⟨_,rfl⟩;rw[<-hvz] at k0 h2;obtain⟨inv,hv⟩:∃inv:Int->Prop,inv=λz=>∃k:Nat,z=(k:Int)/\k<=ks.length/\rtK GA cs (k == 0) (ks.drop k)=R:=⟨_,rfl⟩
      have hi0:inv 0:=by rw[hv];exact⟨0,rfl,Nat.zero_le _,hR.symm⟩
      refine C2 Tryz.func21 rfl λqa qb qc qd qe qf qg qh qi qj qk ql qm qo qp qq qt qu qv qw qx qy qz va vc vd ve vf vg vh vj vk vl vm vn vo vp vq vr vt vu vv vw hA=>?_
      obtain⟨e1',e2',e3',e4',e5',e6',e7',e8',e9'⟩:=l7 hA;obtain⟨r1,r2,r3,r4⟩:=n8 hA;have q0:=eb hA he1.symm;have q1:=eb hA he2.symm;have q2:=eb hA he3.symm;have q3:=eb hA he4.symm;have hlen:∀z,qj (qz K) z=(N == z):=λz=>by rw[e9',r1,hl]
      have hround:∀z,inv z->∃k:Nat,z=(k:Int)/\(qh z (qz K)=false/\R=true\/qh z (qz K)=true/\∃(op':Int) (nm' ar':ByteArray) (n':Int) (b':Bool) (y0 y1 y2 y3:D) (K':List (List D)) (ls:Bool) (z1:Int) (nz am rx rr:Bool),va K z=some [.sc (.int .u8 op'),.sc (.string nm'),.sc (.string ar'),.sc (.int .i64 n'),.sc (.bool b'),y0,y1,y2,y3,.sl 10 K']/\qa .i64 (qb z 1)=z1/\(rr=R->inv z1)/\ks.length - z1.toNat<ks.length - z.toNat/\qh 0 z=nz/\qj z (qa .i64 (qc (qz K) 1))=ls/\j5 21 [.ag [.sc (.int .u8 op'),.sc (.string nm'),.sc (.string ar'),.sc (.int .i64 n'),.sc (.bool b'),y0,y1,y2,y3,.sl 10 K'],.one (.sc (.bool (cs && nz)))] [.one (.sc (.bool rx))]/\j5 41 [.one (.sc (.int .u8 op')),.one (.sc (.bool ls))] [.one (.sc (.bool am))]/\(!((cs && nz) && !am) && (rx && rr))=R):=λz hinv=>by
        rw[hv] at hinv;obtain⟨k,hz,hk,hE⟩:=hinv;have hlt:qh z (qz K)=decide (k<ks.length):=by rw[e7',r1,hl,hNl,hz];exact decide_eq_decide.2 (by omega)
        refine⟨k,hz,?_⟩
        by_cases h9:k<ks.length
        · rw[decide_eq_true h9] at hlt
          obtain⟨xk,hx⟩:∃x,ks[k]?=some x:=⟨_,List.getElem?_eq_getElem h9⟩;have g5:=hget k xk hx;rw[hst k xk hx,b6c] at hE;have c0:=hcp xk (List.mem_of_getElem? hx) (cs && !(k == 0));have g5:va K z=some (cM xk):=by rw[r2,hz];exact g5
          obtain⟨op',nm',ar',n',b',a',ks'⟩:=xk;obtain⟨y0,y1,y2,y3,hyy⟩:=l6 a';rw[cM,hyy] at c0 g5;have h9a:=b9I op' (ks.drop (k+1)).isEmpty;refine .inr ⟨hlt,op',nm',ar',n',b',y0,y1,y2,y3,rM ks',(ks.drop (k+1)).isEmpty,((k+1:Nat):Int),!(k == 0),_,_,rtK GA cs false (ks.drop (k+1)),g5,by rw[e1',e2',hz,IntWalk.i64_in _ (by omega)];omega,?_,by rw[hz];omega,?_,?_,c0,h9a,hE⟩
          · intro e
            rw[hv];exact⟨k+1,rfl,h9,e⟩
          · rw[e7',hz]
            by_cases h0:k=0
            · rw[h0];rfl
            · rw[beq_false_of_ne h0];exact decide_eq_true (by omega)
          · rw[e1',e3',r1,hl,hNl,e9',hz,IntWalk.i64_in _ (by omega),Bool.eq_iff_iff,beq_iff_eq,List.isEmpty_iff,List.drop_eq_nil_iff]
            omega
        · rw[decide_eq_false h9] at hlt
          refine .inl ⟨hlt,?_⟩;rw[<-hE,List.drop_of_length_le (by omega),rtK]
      clear hcp hst hget hv hK
      have g0:cs=false->qi 0 cz=true/\qj (qz K) cz=(N == cz)/\qh cz 0=false:=λe=>by
        rw[e] at he4;have:=hcq.2 (by simpa using he4.symm);rw[hlen,e8',e7'];exact⟨decide_eq_true (by omega),rfl,decide_eq_false (by omega)⟩
      have g1:cs=true->qi 0 cz=false/\qh cz 0=true/\qj (qz K) 0=(N == 0):=λe=>by
        rw[e] at he4;have:=hcq.1 (by simpa using he4.symm);rw[hlen,e8',e7',this];exact⟨rfl,rfl,rfl⟩
      clear hcq;generalize hmu:ks.length=mu at *;have hag:(arms == (e1 || e2))=false\/arms=(e1 || e2):=by cases arms <;> cases e1 <;> cases e2 <;> simp
      rcases key with⟨rfl,rfl,rfl,rfl⟩|⟨rfl,rfl,rfl,rfl⟩|⟨rfl,rfl,rfl,rfl⟩|⟨rfl,rfl,rfl,rfl⟩|⟨rfl,rfl,rfl,rfl⟩
      all_goals
        rcases hag with hag|rfl
        · have hT:T=false:=by rw[hT,hag];rfl
          rw[hT];cases arms
          all_goals first|(cases hag;done)|(cbv;exact fr)
        cases nb
        · have hT:T=false:=hT
          rw[hT];cbv;exact fr
        cases nt
        · have hT:T=false:=hT
          rw[hT];cbv;exact fr
        cases ny
        · have hT:T=false:=hT
          rw[hT];cbv;exact fr
      rotate_left 2
      · -- an operator
        clear k2;obtain⟨t0,t1,t2⟩:=g0 rfl;clear g0 g1;rw[if_pos rfl,if_neg (by decide)] at hT;cases sg
        · have hT:T=false:=hT
          rw[hT];cbv;exact fr
        generalize (N == cz)=kk at *;cases kk
        · have hT:T=false:=hT
          rw[hT];cbv;exact fr
        have hT:T=R:=hT;rw[hT]
        try cbv;refine gr ?_;try simp only[nc] at *
        refine o5 hA (γ:=Int) (λz=>[(88,vi .i64 z),(10,.jk),(13,.jk)]) (λx=>[]) inv (λz=>mu - z.toNat) 0 hi0 ?_ ?_
        · cbv
        · intro z hinv
          cbv;refine gn ?_;try simp only[nc] at *
          obtain⟨k,hz,⟨hlt,hR'⟩|⟨hlt,op',nm',ar',n',b',y0,y1,y2,y3,K',ls,z1,nz,am,rx,rr,g5,u1,hi,hm,g4,g6,c0,c1,hE⟩⟩:=hround z hinv
          · rw[hlt,hR']
            try cbv;exact fr
          · clear hround
            rw[hlt];cases nz
            · rw[Bool.and_false] at c0 hE
              clear c1;cases rx
              · have hR':R=false:=by rw[<-hE];simp
                rw[hR']
                try cbv;exact fr
              · have hR':rr=R:=by rw[<-hE];simp
                try cbv;refine gr ?_;try simp only[nc] at *
                refine⟨z1,hi hR',hm,?_⟩;cbv
            · rw[Bool.and_true] at c0 hE
              cases am
              · first
                  | (have hR':R=false:=by rw[<-hE];simp;done
                     rw[hR']
                     try cbv;exact fr)
                  | (clear c1
                     cases rx
                     · have hR':R=false:=by rw[<-hE];simp
                       rw[hR']
                       try cbv;exact fr
                     · have hR':rr=R:=by rw[<-hE];simp
                       try cbv;refine gr ?_;try simp only[nc] at *
                       refine⟨z1,hi hR',hm,?_⟩
                       cbv)
              · cases rx
                · have hR':R=false:=by rw[<-hE];simp
                  rw[hR']
                  try cbv;exact fr
                · have hR':rr=R:=by rw[<-hE];simp
                  try cbv;refine gr ?_;try simp only[nc] at *
                  refine⟨z1,hi hR',hm,?_⟩;cbv
      · clear h4
        obtain⟨t0,t1,t2⟩:=g1 rfl;clear g0 g1;rw[if_neg (by decide),if_pos rfl] at hT;cases nx'
        · have hT:T=false:=hT
          rw[hT];cbv;exact fr
        generalize (N == 0)=kk at *;cases kk
        rotate_left
        · have hT:T=false:=hT
          rw[hT];cbv;exact fr
        have hT:T=R:=hT;rw[hT]
        try cbv;refine gr ?_;try simp only[nc] at *
        refine o5 hA (γ:=Int) (λz=>[(88,vi .i64 z),(10,.jk),(13,.jk)]) (λx=>[]) inv (λz=>mu - z.toNat) 0 hi0 ?_ ?_
        · cbv
        · intro z hinv
          cbv;refine gn ?_;try simp only[nc] at *
          obtain⟨k,hz,⟨hlt,hR'⟩|⟨hlt,op',nm',ar',n',b',y0,y1,y2,y3,K',ls,z1,nz,am,rx,rr,g5,u1,hi,hm,g4,g6,c0,c1,hE⟩⟩:=hround z hinv
          · rw[hlt,hR']
            try cbv;exact fr
          · clear hround
            rw[hlt];cases nz
            · rw[Bool.and_false] at c0 hE
              clear c1;cases rx
              · have hR':R=false:=by rw[<-hE];simp
                rw[hR']
                try cbv;exact fr
              · have hR':rr=R:=by rw[<-hE];simp
                try cbv;refine gr ?_;try simp only[nc] at *
                refine⟨z1,hi hR',hm,?_⟩;cbv
            · rw[Bool.and_true] at c0 hE
              cases am
              · first
                  | (have hR':R=false:=by rw[<-hE];simp;done
                     rw[hR']
                     try cbv;exact fr)
                  | (clear c1
                     cases rx
                     · have hR':R=false:=by rw[<-hE];simp
                       rw[hR']
                       try cbv;exact fr
                     · have hR':rr=R:=by rw[<-hE];simp
                       try cbv;refine gr ?_;try simp only[nc] at *
                       refine⟨z1,hi hR',hm,?_⟩
                       cbv)
              · cases rx
                · have hR':R=false:=by rw[<-hE];simp
                  rw[hR']
                  try cbv;exact fr
                · have hR':rr=R:=by rw[<-hE];simp
                  try cbv;refine gr ?_;try simp only[nc] at *
                  refine⟨z1,hi hR',hm,?_⟩;cbv
      all_goals
        clear h4;obtain⟨t0,t1,t2⟩:=g0 rfl;clear g0 g1;rw[if_neg (by decide),if_neg (by decide)] at hT;cases nx'
        · have hT:T=false:=hT
          rw[hT];cbv;exact fr
        generalize (N == cz)=kk at *;cases kk
        · have hT:T=false:=hT
          rw[hT];cbv;exact fr
        have hT:T=R:=hT;rw[hT]
        try cbv;refine gr ?_;try simp only[nc] at *
        refine o5 hA (γ:=Int) (λz=>[(88,vi .i64 z),(10,.jk),(13,.jk)]) (λx=>[]) inv (λz=>mu - z.toNat) 0 hi0 ?_ ?_
        · cbv
        · intro z hinv
          cbv;refine gn ?_;try simp only[nc] at *
          obtain⟨k,hz,⟨hlt,hR'⟩|⟨hlt,op',nm',ar',n',b',y0,y1,y2,y3,K',ls,z1,nz,am,rx,rr,g5,u1,hi,hm,g4,g6,c0,c1,hE⟩⟩:=hround z hinv
          · rw[hlt,hR']
            try cbv;exact fr
          · clear hround
            rw[hlt];cases nz
            · rw[Bool.and_false] at c0 hE
              clear c1;cases rx
              · have hR':R=false:=by rw[<-hE];simp
                rw[hR']
                try cbv;exact fr
              · have hR':rr=R:=by rw[<-hE];simp
                try cbv;refine gr ?_;try simp only[nc] at *
                refine⟨z1,hi hR',hm,?_⟩;cbv
            · rw[Bool.and_true] at c0 hE
              cases am
              · first
                  | (have hR':R=false:=by rw[<-hE];simp;done
                     rw[hR']
                     try cbv;exact fr)
                  | (clear c1
                     cases rx
                     · have hR':R=false:=by rw[<-hE];simp
                       rw[hR']
                       try cbv;exact fr
                     · have hR':rr=R:=by rw[<-hE];simp
                       try cbv;refine gr ?_;try simp only[nc] at *
                       refine⟨z1,hi hR',hm,?_⟩
                       cbv)
              · cases rx
                · have hR':R=false:=by rw[<-hE];simp
                  rw[hR']
                  try cbv;exact fr
                · have hR':rr=R:=by rw[<-hE];simp
                  try cbv;refine gr ?_;try simp only[nc] at *
                  refine⟨z1,hi hR',hm,?_⟩;cbv
end Go.Proofs.YtncijebklnbhlaaGreatDoor.Vm
end
