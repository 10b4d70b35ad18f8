/- Part 14 of the proof. Conditions: none. -/
import Derived.Test.YtdjnoafijjepcaaGreatT4
import Derived.Test.YtdjnoafijjepcaaGreatT6
import Derived.Test.YtdjnoafijjepcaaGreatT10
import Derived.Test.YtdjnoafijjepcaaGreatT13
import Derived.Test.YtdjnoafijjepcaaGreatT0
set_option linter.all false
set_option linter.unusedVariables false
set_option linter.unusedSimpArgs false
section
namespace Go.Proofs.YtdjnoafijjepcaaGreat.Vm
open Go.RowKit
set_option maxRecDepth 100000
set_option maxHeartbeats 4000000
theorem b9Q {op:Int} (h:b3v op=none):I9 op=none:=by
 unfold b3v at h;unfold I9
 repeat' split at h
 all_goals first|(cases h;done)|skip
 rename_i h1 h2 h3 h4 h5 h6 h7;rw[d3G (by omega),d3G h2,d3G h3,d3G h7]
theorem b9R {op:Int} {kn:Int} {a b:Bool} (h:b3v op=some (kn,a,b)) (nm:ByteArray) (n:Int) (ks:List Ty) (row:Bool) :
  a6I A3 (.mk op nm n ks) (sI row)=hd2 row (decide (8<=op)) (decide ((ks.length:Int)=kn)) a (A3 nm) (decide (nm.toList=[])) (decide (n<0)) b (n == 0)/\(∃kk,I9 op=some kk/\(kk.length:Int)=kn/\∀(k:Nat) (c:Int),kk[k]?=some c->sI (orB (op == 5) (orB (op == 6) (nmF (op == 11) (k == 1) false)))=c) /\
   (b=true/\(vbl (.mk op nm n ks)=some (n,decide (op=10)))/\(op=10\/op=7)\/b=false/\vbl (.mk op nm n ks)=none):=by
 have key:∀(i:Int) (kk:List Int),op=i->I9 i=some kk->(kk.length:Int)=kn->(∀(k:Nat) (c:Int),kk[k]?=some c->sI (orB (i == 5) (orB (i == 6) (nmF (i == 11) (k == 1) false)))=c)->a=(i == 11)->b=((i == 7) || (i == 10)) ->
   a6I A3 (.mk op nm n ks) (sI row)=hd2 row (decide (8<=op)) (decide ((ks.length:Int)=kn)) a (A3 nm) (decide (nm.toList=[])) (decide (n<0)) b (n == 0)/\(∃kk,I9 op=some kk/\(kk.length:Int)=kn/\∀(k:Nat) (c:Int),kk[k]?=some c->sI (orB (op == 5) (orB (op == 6) (nmF (op == 11) (k == 1) false)))=c):=by
  rintro i kk rfl h1 h2 h3 rfl rfl
  refine⟨?_,kk,h1,h2,h3⟩;rw[b8o,h1];have hk:=a7M h1
  have e1:decide (ks.length=(a1v op).size)=decide ((ks.length:Int)=kn):=by
   have:kk.length=(a1v op).size:=by rw[hk,d4g,P3]
   exact d3X.2 (by omega)
  have e2:(decide (8<=op) == (sI row == 114))=(row == decide (8<=op)):=by cases row <;> cases decide (8<=op) <;> rfl
  unfold hdF hd2;rw[e1,e2];simp only[Option.isSome_some,d59,Bool.or_assoc];cases (op == 11) <;> rfl
 have two:∀ {l:List Int} {P:Nat->Int->Prop} {x y:Int},l=[x,y]->P 0 x->P 1 y->∀(k:Nat) (c:Int),l[k]?=some c->P k c:=by
  rintro l P x y rfl h0 h1 k c h
  match k,h with
  | 0,h=>cases h;exact h0
  | 1,h=>cases h;exact h1
  | k+2,h=>simp at h
 have one:∀ {l:List Int} {P:Nat->Int->Prop} {x:Int},l=[x]->P 0 x->∀(k:Nat) (c:Int),l[k]?=some c->P k c:=by
  rintro l P x rfl h0 k c h
  match k,h with
  | 0,h=>cases h;exact h0
  | k+1,h=>simp at h
 have zero:∀ {P:Nat->Int->Prop},∀(k:Nat) (c:Int),([]:List Int)[k]?=some c->P k c:=λk c h=>by simp at h
 unfold b3v at h
 repeat' split at h
 all_goals first|(cases h;done)|skip
 all_goals
  cases h;rename_i h
  first
  | (rcases h with h|h|h <;> subst h <;> exact⟨(key _ _ rfl rfl rfl zero rfl rfl).1,(key _ _ rfl rfl rfl zero rfl rfl).2,.inr ⟨rfl,rfl⟩⟩)
  | (rcases h with h|h <;> subst h <;> first|exact⟨(key _ _ rfl rfl rfl zero rfl rfl).1,(key _ _ rfl rfl rfl zero rfl rfl).2,.inr ⟨rfl,rfl⟩⟩|exact⟨(key _ _ rfl rfl rfl (one rfl rfl) rfl rfl).1,(key _ _ rfl rfl rfl (one rfl rfl) rfl rfl).2,.inr ⟨rfl,rfl⟩⟩)
  | (subst h;exact⟨(key _ _ rfl rfl rfl zero rfl rfl).1,(key _ _ rfl rfl rfl zero rfl rfl).2,.inl ⟨rfl,rfl,by decide⟩⟩)
  | (subst h;exact⟨(key _ _ rfl rfl rfl (two rfl rfl rfl) rfl rfl).1,(key _ _ rfl rfl rfl (two rfl rfl rfl) rfl rfl).2,.inr ⟨rfl,rfl⟩⟩)
theorem b8p:∀(t:Ty),t.parts.length<=1048576->(∀x∈t.parts,x.name.size<=1048576)->∀(row:Bool) (es:List (R×R)) (s:Int->Option Bool),SAt es s ->
  y7 79 [.mp 0,.ag (C0 (cT t)),vb row] [.mp 3 es] (a7N (B6 A3 t (sI row) && (M6 t.parts s).isSome) (M6 t.parts s)):=by
 intro t
 induction t using Ty.ind with
 | h t ih =>
  intro hN hnm row es s hes;have hkl:=J7 t;have hself:=hnm t (by rw[J4];exact d3L ..);have hkn:∀x∈t.kids,∀y∈x.parts,y.name.size<=1048576:=λx hx y hy=>hnm y (by rw[B5];exact d3M _ (d40.2 ⟨x,hx,hy⟩))
  have ih2:∀x∈t.kids,∀(row:Bool) (es:List (R×R)) (s:Int->Option Bool),SAt es s->y7 79 [.mp 0,.ag (C0 (cT x)),vb row] [.mp 3 es] (a7N (B6 A3 x (sI row) && (M6 x.parts s).isSome) (M6 x.parts s)):=λx hx=>ih x hx (by have:=hkl.2 x hx;omega) (hkn x hx)
  have hsh:=a6J A3 t (sI row)
  have hpm:M6 t.parts s=match vbl t with|none=>M6 (F7 t.kids) s|some p=>if s p.1=some (!p.2) then none else M6 (F7 t.kids) (b00 s p.1 p.2):=by
   rw[J4,M6];cases vbl t <;> rfl
  obtain⟨op,nm,n,ks⟩:=t;simp only[Ty.kids,Ty.op] at hkl ih2 hsh hpm;have hself:nm.size<=1048576:=hself;generalize hbb:(B6 A3 (.mk op nm n ks) (sI row) && (M6 (Ty.mk op nm n ks).parts s).isSome)=b;generalize hFF:M6 (Ty.mk op nm n ks).parts s=F at *;rw[cT];have hb:Tryz.f79.body=some (.seq (U6 (Tryz.f79.body.getD .skip)) (.seq (U6 (m9 (Tryz.f79.body.getD .skip))) (.seq (U6 (m9 (m9 (Tryz.f79.body.getD .skip)))) (.seq (U6 (m9 (m9 (m9 (Tryz.f79.body.getD .skip))))) (m9 (m9 (m9 (m9 (Tryz.f79.body.getD .skip))))))))):=by kernel_rfl
  refine a9Q Tryz.func79 hb (by kernel_rfl) (by kernel_rfl) (by kernel_rfl) ?_;intro qa qb qc qd qe qg qh qi qj qk ql qm qo qp qq qt qu qv qw qx qy qz va vc vd ve vf vg vh vj vk vl vm vn vo vq vr vt vu vv vw vx vy;intros;rename_i hA;refine b9P op nm n (rT ks) row es _ _ ?_ ?_ qa qb qc qd qe qg qh qi qj qk ql qm qo qp qq qt qu qv qw qx qy qz va vc vd ve vf vg vh vj vk vl vm vn vo vq vr vt vu vv vw vx vy hA
  ·intro kn a c hask j12 j13 j14 j15 j16 j17 j18 j19 j20 j21 j22 j23 j24 j25 j26 j27 j28 j29 j30 j31;obtain⟨hh,⟨kk,hkk1,hkk2,hkk3⟩,hv⟩:=b9R hask nm n ks row;rw[hkk1] at hsh;have hsh:B6 A3 (.mk op nm n ks) (sI row)=(a6I A3 (.mk op nm n ks) (sI row) && C5 A3 ks kk):=hsh;rw[hh] at hsh;have hbody:=b65 op nm n ks row es s kn a c j12 j13 j14 j15 j16 j17 j18 j19 j20 j21 j22 j23 j24 j25 j26 j27 j28 j29 j30 j31 kk b F hes hself (by omega) (λh=>by omega) hkk3 (λh=>by rw[<-hbb,hsh,h,d59]) (λh=>by rw[<-hbb,hsh,h,d56,d56]) (λh=>?_) ih2 qa qb qc qd qe qg qh qi qj qk ql qm qo qp qq qt qu qv qw qx qy qz va vc vd ve vf vg vh vj vk vl vm vn vo vq vr vt vu vv vw vx vy hA
   ·rw[hA] at hbody ⊢;exact hbody
   ·rw[hpm]
    rcases hv with⟨rfl,hv,ho⟩|⟨rfl,hv⟩
    ·rw[hv]
     have hr:decide (op=10)=row:=by
      unfold hd2 at h;have h1:(row == decide (8<=op))=true:=by revert h;cases (row == decide (8<=op)) <;> simp
      rw[d4H] at h1;rw[h1]
      rcases ho with rfl|rfl <;> rfl
     rw[hr];rfl
    ·rw[hv];rfl
  ·intro hn st ho h6;have hk:=b9Q hn
   have hbf:b=false:=by
    rw[<-hbb,hsh];unfold a6I;rw[show (Ty.mk op nm n ks).op=op from rfl,hk];rfl
   show vu 1 (a7N b F) [y8 st.t 6] st;rw[h6];exact n7 hA [0] ⟨rfl,rfl,rfl,rfl,by rw[ho];rfl,rfl,rfl,rfl⟩ ⟨es,rfl,hes.1,by rw[hbf],λh=>by rw[hbf] at h;cases h⟩
theorem b4V (t:Ty) (row:Bool):(B6 A3 t (sI row) && (M6 t.parts λ_=>none).isSome)=G2 t (sI row):=by rw[b9O];rfl
theorem b4W (t:Ty) (hN:t.parts.length<=1048576) (hnm:∀x∈t.parts,x.name.size<=1048576):o8 56 [.ag (cT t)] [.one (.sc (.bool (G2 t 116)))]:=by
 have h1:=b8p t hN hnm false [] (λ_=>none) SAt.nil;rw[b4V] at h1;have e:G2 t (sI false)=G2 t 116:=rfl;rw[e] at h1;generalize G2 t 116=b at *;generalize M6 t.parts (λ_=>none)=F at *;obtain⟨c0,c1,c2,c3,hc⟩:∃c0 c1 c2 c3,cT t=[c0,c1,c2,c3]:=by obtain⟨op,nm,n,ks⟩:=t;exact⟨_,_,_,_,by rw[cT]⟩
 rw[hc] at h1 ⊢;refine Q5 Tryz.func56 rfl ?_;intros;rename_i hA;cbv
 repeat ((with_reducible apply j6 hA);cbv)
 refine A1 hA [1] h1 ⟨rfl,rfl,rfl,rfl,rfl,rfl,rfl⟩ ?_
 rintro res os2 ⟨es',rfl,hk',rfl,hm'⟩
 cbv
 repeat ((with_reducible apply j6 hA);cbv)
theorem c9k (t:Ty) (hN:t.parts.length<=1048576) (hnm:∀x∈t.parts,x.name.size<=1048576):o8 94 [.ag (cT t)] [.one (.sc (.bool (G2 t 114)))]:=by
 have h1:=b8p t hN hnm true [] (λ_=>none) SAt.nil;rw[b4V] at h1;have e:G2 t (sI true)=G2 t 114:=rfl;rw[e] at h1;generalize G2 t 114=b at *;generalize M6 t.parts (λ_=>none)=F at *;obtain⟨c0,c1,c2,c3,hc⟩:∃c0 c1 c2 c3,cT t=[c0,c1,c2,c3]:=by obtain⟨op,nm,n,ks⟩:=t;exact⟨_,_,_,_,by rw[cT]⟩
 rw[hc] at h1 ⊢;refine Q5 Tryz.func94 rfl ?_;intros;rename_i hA;cbv
 repeat ((with_reducible apply j6 hA);cbv)
 refine A1 hA [1] h1 ⟨rfl,rfl,rfl,rfl,rfl,rfl,rfl⟩ ?_
 rintro res os2 ⟨es',rfl,hk',rfl,hm'⟩
 cbv
 repeat ((with_reducible apply j6 hA);cbv)
theorem b01 (t:Ty) (hN:t.parts.length<=1048576) (hnm:∀x∈t.parts,x.name.size<=1048576):o8 80 [.ag (cT t)] [.one (.sc (.bool (G2 t 116 || G2 t 114)))]:=by
 have h1:=b4W t hN hnm;have h2:=c9k t hN hnm;generalize G2 t 116=q1 at *;generalize G2 t 114=q2 at *;obtain⟨c0,c1,c2,c3,hc⟩:∃c0 c1 c2 c3,cT t=[c0,c1,c2,c3]:=by obtain⟨op,nm,n,ks⟩:=t;exact⟨_,_,_,_,by rw[cT]⟩
 rw[hc] at h1 h2 ⊢;refine Q5 Tryz.func80 rfl ?_;intros;rename_i hA;cbv;refine gn ?_;refine j8 hA _ h1 ?_ ?_
 ·rfl
 cases q1
 ·cbv
  repeat ((with_reducible apply j6 hA);cbv)
  refine j8 hA _ h2 ?_ ?_
  ·rfl
  cbv
  repeat ((with_reducible apply j6 hA);cbv)
 ·cbv
  repeat ((with_reducible apply j6 hA);cbv)
theorem a8p:∀ {a b:List Ty},a.length≠b.length->Q7 a b=false
 | [],[],h=>absurd rfl h
 | [],_::_,_=>by simp[Q7]
 | _::_,[],_=>by simp[Q7]
 | x::a,y::b,h=>by rw[Q7,a8p (a:=a) (b:=b) (by simpa using h),d5a]
theorem b3w {a b:List Ty} {k:Nat} {x y:Ty} (hx:a[k]?=some x) (hy:b[k]?=some y):Q7 (a.drop k) (b.drop k)=(a3W x y && Q7 (a.drop (k+1)) (b.drop (k+1))):=by
 obtain⟨h1,e1⟩:=d3J.1 hx;obtain⟨h2,e2⟩:=d3J.1 hy;rw[d4c h1,d4c h2,e1,e2,Q7]
def N1 (t:Ty):Bool:=G2 t 116 || G2 t 114
def Sm (t:Ty):Prop:=t.parts.length<=1048576/\∀x∈t.parts,x.name.size<=1048576
theorem a1K {t:Ty} {s:Int} (h:G2 t s=true):B6 A3 t s=true/\a2L t=true:=by
 unfold G2 at h
 rwa [d3N] at h
theorem b3x {t:Ty} (h:N1 t=true):∃s,B6 A3 t s=true:=by
 unfold N1 at h;rw[d41] at h
 rcases h with h|h
 ·exact⟨_,(a1K h).1⟩
 ·exact⟨_,(a1K h).1⟩
theorem a3Z {t:Ty} (h:N1 t=true):G5 t:=by
 obtain⟨s,h⟩:=b3x h;exact a2y h
theorem o8.mono {f:Nat} {rs q q':List R} (h:o8 f rs q) (hq:∀I w v,a3o I w v q->a3o I w v q'):o8 f rs q' :=
 ⟨h.1,λI w args h1 h2=>(h.2 I w args h1 h2).mono λe w' ⟨v,e1,e2,e3⟩=>⟨v,e1,hq _ _ _ e2,e3⟩⟩
theorem AtD.empty {I:Nat->Nat->Prop} {w:World} {v:Value} {n:Nat} (m:Nat) (h:AtD I w v (.sl n [])):AtD I w v (.sl m []):=by
 generalize hr:([]:List (List D))=rows at h;cases h with
 | nil A cap sz=>exact .nil _ _ _
 | sl b off cap sz rows us=>subst hr;exact .nil _ _ _
theorem F8.last {I:Nat->Nat->Prop} {w:World} {us:List Value} {xs:List D} {x y:D} (h:F8 I w us (xs++[x])) (hx:∀u,AtD I w u x->AtD I w u y):F8 I w us (xs++[y]):=by
 refine⟨by have:=h.1;simpa using this,λi u d hu hd=>?_⟩
 rcases d4F i xs.length with hlt|hge
 ·rw[d4b hlt] at hd;exact h.2 i u d hu (by rw[d4b hlt];exact hd)
 ·rw[d3V hge] at hd
  obtain e:i - xs.length=0:=by
   have:=(d3J.1 hd).1
   simp at this
   omega
  rw[e] at hd
  simp at hd
  subst hd;exact hx u (h.2 i u x hu (by rw[d3V hge,e];rfl))
theorem o8.sl0 {f:Nat} {rs:List R} {a b c:D} {n:Nat} (m:Nat) (h:o8 f rs [.ag [a,b,c,.sl n []]]):o8 f rs [.ag [a,b,c,.sl m []]]:=h.mono λI w v hv=>by
 obtain⟨us,rfl,h2⟩:=hv;exact⟨us,rfl,F8.last (xs:=[a,b,c]) h2 λu hu=>hu.empty m⟩
theorem c6b (t:Ty) (ht:Sm t):o8 104 [.ag (cT t)] [.ag (cT (if N1 t=true then y9 t else v8))]:=by
 have h1:=b01 t ht.1 ht.2;have hb:(G2 t 116 || G2 t 114)=N1 t:=rfl;rw[hb] at h1
 by_cases he:N1 t=true
 ·rw[d3I he];have h2:=b4S _ t (d3Q _) ht.1 (a3Z he);rw[he] at h1;obtain⟨a0,a1,a2,a3,ha⟩:=m8 t;obtain⟨c0,c1,c2,c3,hc⟩:=m8 (y9 t);rw[ha] at h1 h2;rw[hc] at h2;rw[ha,hc];refine Q5 Tryz.func104 rfl λqa qb qc qd qe qg qh qi qj qk ql qm qo qp qq qt qu qv qw qx qy qz va vc vd ve vf vg vh vj vk vl vm vn vo vq vr vt vu vv vw vx vy hA=>?_
  iterate 2 (try cbv;repeat ((first|with_reducible apply j6 hA|refine j8 hA _ h1 rfl ?_|refine j8 hA _ h2 rfl ?_);cbv))
 ·have he:N1 t=false:=by simpa using he
  rw[he,d3G (by simp)];rw[he] at h1;obtain⟨a0,a1,a2,a3,ha⟩:=m8 t;rw[ha] at h1 ⊢;unfold v8;rw[cT,rT];refine o8.sl0 (n:=0) 4 ?_;refine Q5 Tryz.func104 rfl λqa qb qc qd qe qg qh qi qj qk ql qm qo qp qq qt qu qv qw qx qy qz va vc vd ve vf vg vh vj vk vl vm vn vo vq vr vt vu vv vw vx vy hA=>?_
  iterate 2 (try cbv;repeat ((first|with_reducible apply j6 hA|refine j8 hA _ h1 rfl ?_);cbv))
theorem b66 {W:ByteArray->Bool} {t:Ty}:∀ {s:Int},B6 W t s=true->∀x∈t.parts,∃c,B6 W x c=true:=by
 induction t using Ty.ind with
 | h t ih =>
  intro s h x hx;rw[B5] at hx
  rcases d3R.1 hx with rfl|hx
  ·exact⟨s,h⟩
  ·obtain⟨y,hy,hxy⟩:=d40.1 hx;obtain⟨k,hk,h1,h2,h3,h4,h5,h6⟩:=a0f h;obtain⟨c,hc⟩:=a2w W _ _ h6 y hy;exact ih y hy hc x hxy
theorem b2e {nm:ByteArray} (h:A3 nm=true):nm.size<=32:=by
 unfold A3 at h;rw[d3N] at h;exact d4u h.1
theorem b67 {t:Ty} {s:Int} (h:B6 A3 t s=true):t.name.size<=32:=by
 obtain⟨k,hk,h1,h2,h3,-⟩:=a0f h
 split at h3
 ·exact b2e h3
 ·have h4:t.name.toList=[]:=d4u h3;have h5:t.name.data.toList=[]:=by rw[<-ByteArray.toList_eq];exact h4
  have h6:t.name.size=t.name.data.toList.length:=by rw[d4K];rfl
  rw[h6,h5]
  simp
theorem c7E {t:Ty} {s:Int} (h:B6 A3 t s=true) (hN:t.parts.length<=1048576):Sm t:=⟨hN,λx hx=>by
 obtain⟨c,hc⟩:=b66 h x hx;have:=b67 hc
 omega⟩
theorem b3y (ts:List Tok) (t:Tok) (a:Nat) (ht:ts[a]?=some t) (hl:ts.length<=1048576) (c:Int):y7 111 [.ptr 0 0,vi .u8 c] (eyB 0 0 (P6 ts) (a:Int)) (λres os=>res=[]/\os=eyB c t.at_ (P6 ts) (a:Int)):=by
 have hp:=a4A ts t a ht hl;unfold tkD rdB at hp;unfold eyB;generalize P6 ts=T at *;generalize t.kind=tk at *;generalize t.text=tx at *;generalize t.n=tn at *;generalize t.at_=ta at *;generalize ((a:Nat):Int)=z at *;refine so9 Tryz.func111 rfl ?_;intro _ _ _ _ _ _ _ _ _ qk _ _ _ _ _ _ _ _ _ _ _ _ _ _ _ _ _ _ _ _ _ _ _ _ _ _ _ _ _ _ _ vx;intros;rename_i hA;obtain⟨e1,e2,e3,e4,e5,e6,e7,e8,e9⟩:=m6 hA;have q1:qk 0 0=true:=by rw[e9];rfl
 have r0:=hp;exact fin
theorem c2V (T:List (List D)) (e p z c:Int) (he:e≠0):y7 111 [.ptr 0 0,vi .u8 c] (eyB e p T z) (λres os=>res=[]/\os=eyB e p T z):=by
 unfold eyB;refine so9 Tryz.func111 rfl ?_;intro _ _ _ _ _ _ _ _ _ qk _ _ _ _ _ _ _ _ _ _ _ _ _ _ _ _ _ _ _ _ _ _ _ _ _ _ _ _ _ _ _ vx;intros;rename_i hA;obtain⟨e1,e2,e3,e4,e5,e6,e7,e8,e9⟩:=m6 hA;have q1:qk e 0=false:=by rw[e9];exact d3P he
 exact fin
theorem c6c (ts:List Tok) (t:Tok) (a:Nat) (ht:ts[a]?=some t) (hl:ts.length<=1048576) (s:ByteArray):y7 113 [.ptr 0 0,vs s] (eyB 0 0 (P6 ts) (a:Int)) (λres os=>res=[vb (Z5 t s)]/\os=eyB 0 0 (P6 ts) ((if Z5 t s=true then a+1 else a:Nat):Int)):=by
 have hq:=b3c ts t a ht hl s;unfold rdB at hq;unfold eyB;generalize P6 ts=T at *;generalize Z5 t s=b at *;generalize ((if b=true then a+1 else a:Nat):Int)=y at *;generalize ((a:Nat):Int)=z at *;refine so9 Tryz.func113 rfl ?_;intro _ _ _ _ _ _ _ _ _ qk;intros;rename_i hA;obtain⟨e1,e2,e3,e4,e5,e6,e7,e8,e9⟩:=m6 hA;have q1:qk 0 0=true:=by rw[e9];rfl
 cases b
 ·iterate 2 (try cbv;repeat ((first|with_reducible apply j6 hA|rw[q1]|refine B8 hA [1] hq ?_);cbv))
  try simp (maxSteps:=4000000) only [nc] at *
  exact n7 hA [0,1] ⟨rfl,rfl,rfl,rfl,rfl,rfl,rfl,rfl⟩ ⟨rfl,rfl⟩
 ·iterate 2 (try cbv;repeat ((first|with_reducible apply j6 hA|rw[q1]|refine B8 hA [1] hq ?_);cbv))
  try simp (maxSteps:=4000000) only [nc] at *
  exact n7 hA [0,1] ⟨rfl,rfl,rfl,rfl,rfl,rfl,rfl,rfl⟩ ⟨rfl,rfl⟩
theorem c2W (T:List (List D)) (e p z:Int) (he:e≠0) (s:ByteArray):y7 113 [.ptr 0 0,vs s] (eyB e p T z) (λres os=>res=[vb false]/\os=eyB e p T z):=by
 unfold eyB;refine so9 Tryz.func113 rfl ?_;intro _ _ _ _ _ _ _ _ _ qk _ _ _ _ _ _ _ _ _ _ _ _ _ _ _ _ _ _ _ _ _ _ _ _ _ _ _ _ _ _ _ vx;intros;rename_i hA;obtain⟨e1,e2,e3,e4,e5,e6,e7,e8,e9⟩:=m6 hA;have q1:qk e 0=false:=by rw[e9];exact d3P he
 exact fin
theorem c6d (ts:List Tok) (t:Tok) (a:Nat) (ht:ts[a]?=some t) (hl:ts.length<=1048576) (s:ByteArray):y7 124 [.ptr 0 0,vs s] (eyB 0 0 (P6 ts) (a:Int)) (λres os=>res=[]/\os=if Z5 t s=true then eyB 0 0 (P6 ts) ((a+1:Nat):Int) else eyB 5 t.at_ (P6 ts) (a:Int)):=by
 have hq:=b3c ts t a ht hl s;have hf:=b3y ts t a ht hl 5;unfold rdB at hq;unfold eyB at hf ⊢;generalize P6 ts=T at *;generalize Z5 t s=b at *;generalize t.at_=ta at *;cases b
 ·rw[d3G (by decide)] at hq;rw[d3G (by decide)];generalize ((a:Nat):Int)=z at *;refine so9 Tryz.func124 rfl λqa qb qc qd qe qg qh qi qj qk ql qm qo qp qq qt qu qv qw qx qy qz va vc vd ve vf vg vh vj vk vl vm vn vo vq vr vt vu vv vw vx vy hA=>?_
  obtain⟨e1,e2,e3,e4,e5,e6,e7,e8,e9⟩:=m6 hA;have q1:qk 0 0=true:=by rw[e9];rfl
  iterate 2 (try cbv;repeat ((first|with_reducible apply j6 hA|rw[q1]|refine B8 hA [1] hq ?_|refine B8 hA [0,1] hf ?_);cbv))
  try simp (maxSteps:=4000000) only [nc] at *
  exact n7 hA [0,1] ⟨rfl,rfl,rfl,rfl,rfl,rfl,rfl,rfl⟩ ⟨rfl,rfl⟩
 ·rw[d3I rfl] at hq;rw[d3I rfl];generalize ((a+1:Nat):Int)=y at *;generalize ((a:Nat):Int)=z at *;refine so9 Tryz.func124 rfl λqa qb qc qd qe qg qh qi qj qk ql qm qo qp qq qt qu qv qw qx qy qz va vc vd ve vf vg vh vj vk vl vm vn vo vq vr vt vu vv vw vx vy hA=>?_
  obtain⟨e1,e2,e3,e4,e5,e6,e7,e8,e9⟩:=m6 hA;have q1:qk 0 0=true:=by rw[e9];rfl
  iterate 2 (try cbv;repeat ((first|with_reducible apply j6 hA|rw[q1]|refine B8 hA [1] hq ?_);cbv))
  try simp (maxSteps:=4000000) only [nc] at *
  exact n7 hA [0,1] ⟨rfl,rfl,rfl,rfl,rfl,rfl,rfl,rfl⟩ ⟨rfl,rfl⟩
theorem c2X (T:List (List D)) (e p z:Int) (he:e≠0) (s:ByteArray):y7 124 [.ptr 0 0,vs s] (eyB e p T z) (λres os=>res=[]/\os=eyB e p T z):=by
 unfold eyB;refine so9 Tryz.func124 rfl ?_;intro _ _ _ _ _ _ _ _ _ qk _ _ _ _ _ _ _ _ _ _ _ _ _ _ _ _ _ _ _ _ _ _ _ _ _ _ _ _ _ _ _ vx;intros;rename_i hA;obtain⟨e1,e2,e3,e4,e5,e6,e7,e8,e9⟩:=m6 hA;have q1:qk e 0=false:=by rw[e9];exact d3P he
 exact fin
theorem y7.reread {f:Nat} {vs:List V} {os:List O} {Q Q2:List V->List O->Prop} (h:y7 f vs os Q) (hQ:∀res os2,Q res os2->∃res2,Q2 res2 os2/\∀(I:Nat->Nat->Prop) (w:World) (g:Nat->Value) (us:List Value),o7 I w g us res->o7 I w g us res2):y7 f vs os Q2 :=
 ⟨h.1,λI w g args hr=>(h.2 I w g args hr).mono λe w' ⟨us,res,os2,I',g',e1,e2,e3⟩=>by
  obtain⟨res2,q,hv⟩:=hQ res os2 e2
  exact⟨us,res2,os2,I',g',e1,q,⟨e3.im,e3.lt,e3.fr,e3.kp,e3.lo,e3.st,e3.obj,e3.dis,e3.out,hv _ _ _ _ e3.tmp,e3.dfr⟩⟩⟩
theorem nil4 {I:Nat->Nat->Prop} {w:World} {g:Nat->Value} {us:List Value} {a b c:V} {z:Nat} (h:o7 I w g us [.ag [a,b,c,.em]]):o7 I w g us [.ag [a,b,c,.d (.sl z [])]] :=
 h.reset (i:=0) λv hv=>by
  have h4:=h.2 0 v _ hv rfl;obtain⟨ks,rfl,h5⟩:=h4.unag;exact Z6 (h5.reset (i:=3) λv hv=>by rw[(h5.2 3 v _ hv rfl).unem];exact .d (.nil _ _ _))
theorem y7.nil4 {f:Nat} {vs:List V} {os os':List O} {a b c:V} {z:Nat} (h:y7 f vs os (λres os2=>res=[.ag [a,b,c,.em]]/\os2=os')):y7 f vs os (λres os2=>res=[.ag [a,b,c,.d (.sl z [])]]/\os2=os') :=
 h.reread λres os2 ⟨h1,h2⟩=>⟨_,⟨rfl,h2⟩,λI w g us hv=>Vm.nil4 (h1 ▸ hv)⟩
theorem a7O:C0 (cT v8)=[.d (.sc (.int .u8 0)),.d (.sc (.string ⟨#[]⟩)),.d (.sc (.int .i64 0)),.d (.sl 4 [])]:=by
 unfold v8;rw[cT,rT];rfl
theorem b9S (T:List (List D)) (e p z L:Int) (he:e≠0):y7 103 [.ptr 0 0,vi .i64 L] (eyB e p T z) (λres os=>res=[.ag (C0 (cT v8))]/\os=eyB e p T z):=by
 unfold eyB;rw[a7O];refine y7.nil4 ?_;refine so9 Tryz.func103 rfl ?_;intro _ _ _ _ _ _ _ _ _ qk _ _ _ _ _ _ _ _ _ _ _ _ _ _ _ _ _ _ _ _ _ _ _ _ _ _ _ _ _ _ _ vx;intros;rename_i hA;obtain⟨e1,e2,e3,e4,e5,e6,e7,e8,e9⟩:=m6 hA;have q1:qk e 0=false:=by rw[e9];exact d3P he
 exact fin
theorem b68 (ts:List Tok) (t:Tok) (a:Nat) (ht:ts[a]?=some t) (hl:ts.length<=1048576) (L:Int) (hL:200<L):y7 103 [.ptr 0 0,vi .i64 L] (eyB 0 0 (P6 ts) (a:Int)) (λres os=>res=[.ag (C0 (cT v8))]/\os=eyB 6 t.at_ (P6 ts) (a:Int)):=by
 have hf:=b3y ts t a ht hl 6;unfold eyB at *;rw[a7O];refine y7.nil4 ?_;generalize P6 ts=T at *;generalize t.at_=ta at *;generalize ((a:Nat):Int)=z at *;refine so9 Tryz.func103 rfl ?_;intro _ _ _ _ _ _ _ qi _ qk _ _ _ _ _ _ _ _ _ _ _ _ _ _ _ _ _ _ _ _ _ _ _ _ _ _ _ _ _ _ _ vx;intros;rename_i hA;obtain⟨e1,e2,e3,e4,e5,e6,e7,e8,e9⟩:=m6 hA;have q1:qk 0 0=true:=by rw[e9];rfl
 have q2:qi 200 L=true:=by rw[e7];exact d3S hL
 have p0:=hf;exact fin
theorem c6e {l:List ByteArray} {k:Nat} {s:ByteArray} (h:l[k]?=some s):(rSt l)[k]?=some [.sc (.string s)]:=by unfold rSt;rw[d4p,h];rfl
def d2Z (ts:List Tok) (l:List ByteArray) (p:PE) (z:Int):Prop:=∃k:Nat,z=(k:Int)/\k<=l.length/\w9 ts (l.drop k) p=w9 ts l p
theorem b02 {ts:List Tok} (hl:ts.length<=1048576) {p:PE} (hp:p.1<ts.length) (l:List ByteArray) (hn:l.length<=100):N2 55 [.d (.sl 1 (rSt l))] ts p [vs ((w9 ts l p).getD N9)] (a2M ts l p):=by
 have hsk:=λs=>a1a hl hp s
 obtain⟨N,hN⟩:∃N,N=l.length:=⟨_,rfl⟩;rw[<-hN] at hn;have hlen:(rSt l).length=N:=by unfold rSt;rw[d4g,hN]
 have hgt:∀(k:Nat) (s:ByteArray),l[k]?=some s->(rSt l)[k]?=some [.sc (.string s)]:=λk s h=>c6e h
 generalize rSt l=R0 at *;obtain⟨inv,hi⟩:∃inv,inv=d2Z ts l p:=⟨_,rfl⟩;have hi0:inv 0:=by rw[hi];exact⟨0,rfl,d4o _,by rw[d5b]⟩
 have hhit:∀s,w9 ts l p=some s->a2M ts l p=(p.1+1,0):=λs h=>by unfold a2M;rw[h]
 have hno:w9 ts l p=none->a2M ts l p=p:=λh=>by unfold a2M;rw[h]
 have hsp:∀s,B1 ts s p=true->skP ts s p=(p.1+1,0):=λs h=>by unfold skP;rw[d3I h]
 have hsn:∀s,B1 ts s p=false->skP ts s p=p:=λs h=>by unfold skP;rw[d3G (by rw[h];decide)]
 obtain⟨s1,hs1⟩:∃s1,s1=stP ts (p.1+1,0):=⟨_,rfl⟩;obtain⟨s0,hs0⟩:∃s0,s0=stP ts p:=⟨_,rfl⟩;obtain⟨s2,hs2⟩:∃s2,s2=stP ts (a2M ts l p):=⟨_,rfl⟩;obtain⟨W,hW⟩:∃W,W=(w9 ts l p).getD N9:=⟨_,rfl⟩;unfold N2;rw[<-hs0,<-hs2,<-hW];have hok:∀s,B1 ts s p=true->F4 26 [vs s] (P6 ts) s0 [vb true] s1:=λs h=>by have h2:=hsk s;unfold N2 at h2;rw[h,hsp s h,<-hs0,<-hs1] at h2;exact h2
 have hnk:∀s,B1 ts s p=false->F4 26 [vs s] (P6 ts) s0 [vb false] s0:=λs h=>by have h2:=hsk s;unfold N2 at h2;rw[h,hsn s h,<-hs0] at h2;exact h2
 clear hsk;generalize P6 ts=T at *;obtain⟨a0,a1,a2⟩:=s0;obtain⟨b0,b1,b2⟩:=s1;obtain⟨d0,d1,d2⟩:=s2;refine so9 Tryz.func55 rfl ?_;intro qa qb _ _ _ _ _ qi _ _ _ _ _ _ _ _ _ _ _ _ _ _ va vc _ _ _ _ _ _ _ _ _ _ _ _ _ _ _ _ _ vx;intros;rename_i hA;obtain⟨e1,e2,e3,e4,e5,e6,e7,e8,e9⟩:=m6 hA;obtain⟨r1,r2,r3,r4⟩:=B3 hA;cbv;refine gn ?_;refine n9 hA (γ:=Int) (λx=>[(9,vi .i64 x)]) (λx=>[]) inv (λx=>N - x.toNat) 0 hi0 ?_ ?_
 ·cbv
 ·intro z hinv;cbv;refine gn ?_;try simp only[nc] at *
  rw[hi] at hinv;obtain⟨k,hz,hk,hE⟩:=hinv;replace hz:z=(k:Int):=hz;have hlt:qi z (va R0)=decide (k<N):=by rw[e7,r1,hlen,hz];exact d3X.2 (by omega)
  by_cases h9:k<N
  ·rw[d3S h9] at hlt;obtain⟨x,hx⟩:∃x,l[k]?=some x:=⟨_,d3H (by omega)⟩;have gx:vc R0 z=some [.sc (.string x)]:=by rw[r2,hz,d3I (by omega),show ((k:Int)).toNat=k by omega,hgt k x hx]
   have hz1:qa .i64 (qb z 1)=((k+1:Nat):Int):=by rw[e1,e2,hz,IntWalk.i64_in _ (by omega)];omega
   have hmu:N - (qa .i64 (qb z 1)).toNat<N - z.toNat:=by rw[hz1,hz];omega
   have hdr:l.drop k=x::l.drop (k+1):=by
    obtain⟨hi,e⟩:=d3J.1 hx;rw[d4c hi,e]
   rw[hdr,w9] at hE;rw[hlt];cases hb:B1 ts x p with
   | true =>
    rw[d3I hb] at hE;have h1:=hok x hb;have hWx:W=x:=by rw[hW,<-hE];rfl
    have hs12:((d0,d1,d2):ST)=(b0,b1,b2):=by rw[hs2,hs1,hhit x hE.symm]
    injection hs12 with f0 f1;injection f1 with f1 f2;subst f0;subst f1;subst f2;rw[hWx];clear hs2 hs1 hs0 hE hb;have q0:=gx;have p0:=h1;exact fin
   | false =>
    rw[d3G (by rw[hb];decide)] at hE;have h1:=hnk x hb;have hin:inv (qa .i64 (qb z 1)):=by rw[hi];exact⟨k+1,hz1,by omega,hE⟩
    clear hs2 hs1 hs0 hE hb;have q0:=gx;have p0:=h1;have hi:=hin;have hm:=hmu;exact fin
  ·rw[d3P h9] at hlt;rw[d4w (by omega),w9] at hE;have hWx:W=N9:=by rw[hW,<-hE];rfl
   have hs12:((d0,d1,d2):ST)=(a0,a1,a2):=by rw[hs2,hs0,hno hE.symm]
   injection hs12 with f0 f1;injection f1 with f1 f2;subst f0;subst f1;subst f2;rw[hWx,hlt];clear hs2 hs1 hs0 hE;exact fin
end Go.Proofs.YtdjnoafijjepcaaGreat.Vm
end
