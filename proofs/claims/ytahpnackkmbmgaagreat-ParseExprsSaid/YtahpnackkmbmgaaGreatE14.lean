/- Part 14 of the proof. Conditions: none. -/
import Derived.Test.YtahpnackkmbmgaaGreatE4
import Derived.Test.YtahpnackkmbmgaaGreatE6
import Derived.Test.YtahpnackkmbmgaaGreatE10
import Derived.Test.YtahpnackkmbmgaaGreatE13
import Derived.Test.YtahpnackkmbmgaaGreatE0
set_option linter.all false
set_option linter.unusedVariables false
set_option linter.unusedSimpArgs false
section
namespace Go.Proofs.YtahpnackkmbmgaaGreat.Vm
open Go.RowKit
set_option maxRecDepth 100000
set_option maxHeartbeats 4000000
theorem b8S {op:Int} (h:b2S op=none):Z6 op=none:=by
 unfold b2S at h
 unfold Z6
 repeat' split at h
 all_goals first|(cases h;done)|skip
 rename_i h1 h2 h3 h4 h5 h6 h7
 rw [d2T (by omega),d2T h2,d2T h3,d2T h7]
theorem b8T {op:Int} {kn:Int} {a b:Bool} (h:b2S op=some (kn,a,b)) (nm:ByteArray) (n:Int) (ks:List Ty) (row:Bool) :
  a65 E3 (.mk op nm n ks) (sI row)=hd2 row (decide (8≤op)) (decide ((ks.length:Int)=kn)) a (E3 nm) (decide (nm.toList=[])) (decide (n<0)) b (n == 0)∧(∃kk,Z6 op=some kk∧(kk.length:Int)=kn∧∀(k:Nat) (c:Int),kk[k]?=some c→sI (orB (op == 5) (orB (op == 6) (nmF (op == 11) (k == 1) false)))=c) ∧
   (b=true∧(vbl (.mk op nm n ks)=some (n,decide (op=10)))∧(op=10∨op=7)∨b=false∧vbl (.mk op nm n ks)=none):=by
 have key:∀(i:Int) (kk:List Int),op=i→Z6 i=some kk→(kk.length:Int)=kn→(∀(k:Nat) (c:Int),kk[k]?=some c→sI (orB (i == 5) (orB (i == 6) (nmF (i == 11) (k == 1) false)))=c)→a=(i == 11)→b=((i == 7) || (i == 10)) →
   a65 E3 (.mk op nm n ks) (sI row)=hd2 row (decide (8≤op)) (decide ((ks.length:Int)=kn)) a (E3 nm) (decide (nm.toList=[])) (decide (n<0)) b (n == 0)∧(∃kk,Z6 op=some kk∧(kk.length:Int)=kn∧∀(k:Nat) (c:Int),kk[k]?=some c→sI (orB (op == 5) (orB (op == 6) (nmF (op == 11) (k == 1) false)))=c):=by
  rintro i kk rfl h1 h2 h3 rfl rfl
  refine ⟨?_,kk,h1,h2,h3⟩
  rw [c4x,h1]
  have hk:=b19 h1
  have e1:decide (ks.length=(a9Y op).size)=decide ((ks.length:Int)=kn):=by
   have:kk.length=(a9Y op).size:=by rw [hk,d3o,a07]
   exact d3l.2 (by omega)
  have e2:(decide (8≤op) == (sI row == 114))=(row == decide (8≤op)):=by cases row <;> cases decide (8≤op) <;> rfl
  unfold hdF hd2
  rw [e1,e2]
  simp only [Option.isSome_some,d44,Bool.or_assoc]
  cases (op == 11) <;> rfl
 have two:∀ {l:List Int} {P:Nat→Int→Prop} {x y:Int},l=[x,y]→P 0 x→P 1 y→∀(k:Nat) (c:Int),l[k]?=some c→P k c:=by
  rintro l P x y rfl h0 h1 k c h
  match k,h with
  | 0,h=>cases h;exact h0
  | 1,h=>cases h;exact h1
  | k+2,h=>simp at h
 have one:∀ {l:List Int} {P:Nat→Int→Prop} {x:Int},l=[x]→P 0 x→∀(k:Nat) (c:Int),l[k]?=some c→P k c:=by
  rintro l P x rfl h0 k c h
  match k,h with
  | 0,h=>cases h;exact h0
  | k+1,h=>simp at h
 have zero:∀ {P:Nat→Int→Prop},∀(k:Nat) (c:Int),([]:List Int)[k]?=some c→P k c:=fun k c h=>by simp at h
 unfold b2S at h
 repeat' split at h
 all_goals first|(cases h;done)|skip
 all_goals
  cases h
  rename_i h
  first
  | (rcases h with h|h|h <;> subst h <;> exact ⟨(key _ _ rfl rfl rfl zero rfl rfl).1,(key _ _ rfl rfl rfl zero rfl rfl).2,.inr ⟨rfl,rfl⟩⟩)
  | (rcases h with h|h <;> subst h <;> first|exact ⟨(key _ _ rfl rfl rfl zero rfl rfl).1,(key _ _ rfl rfl rfl zero rfl rfl).2,.inr ⟨rfl,rfl⟩⟩|exact ⟨(key _ _ rfl rfl rfl (one rfl rfl) rfl rfl).1,(key _ _ rfl rfl rfl (one rfl rfl) rfl rfl).2,.inr ⟨rfl,rfl⟩⟩)
  | (subst h;exact ⟨(key _ _ rfl rfl rfl zero rfl rfl).1,(key _ _ rfl rfl rfl zero rfl rfl).2,.inl ⟨rfl,rfl,by decide⟩⟩)
  | (subst h;exact ⟨(key _ _ rfl rfl rfl (two rfl rfl rfl) rfl rfl).1,(key _ _ rfl rfl rfl (two rfl rfl rfl) rfl rfl).2,.inr ⟨rfl,rfl⟩⟩)
theorem b76:∀(t:Ty),t.parts.length≤1048576→(∀x∈t.parts,x.name.size≤1048576)→∀(row:Bool) (es:List (R×R)) (s:Int→Option Bool),SAt es s →
  v8 111 [.mp 0,.ag (A7 (cT t)),vb row] [.mp 3 es] (a70 (I9 E3 t (sI row) && (K4 t.parts s).isSome) (K4 t.parts s)):=by
 intro t
 induction t using Ty.ind with
 | h t ih =>
  intro hN hnm row es s hes
  have hkl:=T5 t
  have hself:=hnm t (by rw [a0e];exact d2V ..)
  have hkn:∀x∈t.kids,∀y∈x.parts,y.name.size≤1048576:=fun x hx y hy=>hnm y (by rw [C4];exact d2W _ (d3K.2 ⟨x,hx,hy⟩))
  have ih2:∀x∈t.kids,∀(row:Bool) (es:List (R×R)) (s:Int→Option Bool),SAt es s→v8 111 [.mp 0,.ag (A7 (cT x)),vb row] [.mp 3 es] (a70 (I9 E3 x (sI row) && (K4 x.parts s).isSome) (K4 x.parts s)):=fun x hx=>ih x hx (by have:=hkl.2 x hx;omega) (hkn x hx)
  have hsh:=a9F E3 t (sI row)
  have hpm:K4 t.parts s=match vbl t with|none=>K4 (a0B t.kids) s|some p=>if s p.1=some (!p.2) then none else K4 (a0B t.kids) (b2P s p.1 p.2):=by
   rw [a0e,K4]
   cases vbl t <;> rfl
  obtain ⟨op,nm,n,ks⟩:=t
  simp only [Ty.kids,Ty.op] at hkl ih2 hsh hpm
  have hself:nm.size≤1048576:=hself
  generalize hbb:(I9 E3 (.mk op nm n ks) (sI row) && (K4 (Ty.mk op nm n ks).parts s).isSome)=b
  generalize hFF:K4 (Ty.mk op nm n ks).parts s=F at *
  rw [cT]
  have hb:Tryz.f111.body=some (.seq (Q7 (Tryz.f111.body.getD .skip)) (.seq (Q7 (m6 (Tryz.f111.body.getD .skip))) (.seq (Q7 (m6 (m6 (Tryz.f111.body.getD .skip)))) (.seq (Q7 (m6 (m6 (m6 (Tryz.f111.body.getD .skip))))) (m6 (m6 (m6 (m6 (Tryz.f111.body.getD .skip))))))))):=by kernel_rfl
  refine a90 Tryz.func111 hb (by kernel_rfl) (by kernel_rfl) (by kernel_rfl) ?_;intro qa qb qc qd qe qg qh qi qj qk ql qm qo qp qq qt qu qv qw qx qy qz va vc vd ve vf vg vh vj vk vl vm vn vo vp vq vr vt vu vv vw vx;intros;rename_i hA
  refine b8R op nm n (rT ks) row es _ _ ?_ ?_ qa qb qc qd qe qg qh qi qj qk ql qm qo qp qq qt qu qv qw qx qy qz va vc vd ve vf vg vh vj vk vl vm vn vo vp vq vr vt vu vv vw vx hA
  ·intro kn a c hask j12 j13 j14 j15 j16 j17 j18 j19 j20 j21 j22 j23 j24 j25 j26 j27 j28 j29 j30 j31
   obtain ⟨hh,⟨kk,hkk1,hkk2,hkk3⟩,hv⟩:=b8T hask nm n ks row
   rw [hkk1] at hsh
   have hsh:I9 E3 (.mk op nm n ks) (sI row)=(a65 E3 (.mk op nm n ks) (sI row) && J0 E3 ks kk):=hsh
   rw [hh] at hsh
   have hbody:=b5X op nm n ks row es s kn a c j12 j13 j14 j15 j16 j17 j18 j19 j20 j21 j22 j23 j24 j25 j26 j27 j28 j29 j30 j31 kk b F hes hself (by omega) (fun h=>by omega) hkk3 (fun h=>by rw [←hbb,hsh,h,d44]) (fun h=>by rw [←hbb,hsh,h,d5b,d5b]) (fun h=>?_) ih2 qa qb qc qd qe qg qh qi qj qk ql qm qo qp qq qt qu qv qw qx qy qz va vc vd ve vf vg vh vj vk vl vm vn vo vp vq vr vt vu vv vw vx hA
   ·rw [hA] at hbody ⊢
    exact hbody
   ·rw [hpm]
    rcases hv with ⟨rfl,hv,ho⟩|⟨rfl,hv⟩
    ·rw [hv]
     have hr:decide (op=10)=row:=by
      unfold hd2 at h
      have h1:(row == decide (8≤op))=true:=by revert h;cases (row == decide (8≤op)) <;> simp
      rw [d3F] at h1
      rw [h1]
      rcases ho with rfl|rfl <;> rfl
     rw [hr]
     rfl
    ·rw [hv]
     rfl
  ·intro hn st ho h6
   have hk:=b8S hn
   have hbf:b=false:=by
    rw [←hbb,hsh]
    unfold a65
    rw [show (Ty.mk op nm n ks).op=op from rfl,hk]
    rfl
   show vt 1 (a70 b F) [v7 st.t 6] st
   rw [h6]
   exact m9 hA [0] ⟨rfl,rfl,rfl,rfl,by rw [ho];rfl,rfl,rfl,rfl⟩ ⟨es,rfl,hes.1,by rw [hbf],fun h=>by rw [hbf] at h;cases h⟩
theorem b46 (t:Ty) (row:Bool):(I9 E3 t (sI row) && (K4 t.parts fun _=>none).isSome)=N0 t (sI row):=by rw [b8Q];rfl
theorem c1O (t:Ty) (hN:t.parts.length≤1048576) (hnm:∀x∈t.parts,x.name.size≤1048576):o9 90 [.ag (cT t)] [.one (.sc (.bool (N0 t 116)))]:=by
 have h1:=b76 t hN hnm false [] (fun _=>none) SAt.nil
 rw [b46] at h1
 have e:N0 t (sI false)=N0 t 116:=rfl
 rw [e] at h1
 generalize N0 t 116=b at *
 generalize K4 t.parts (fun _=>none)=F at *
 obtain ⟨c0,c1,c2,c3,hc⟩:∃c0 c1 c2 c3,cT t=[c0,c1,c2,c3]:=by obtain ⟨op,nm,n,ks⟩:=t;exact ⟨_,_,_,_,by rw [cT]⟩
 rw [hc] at h1 ⊢
 refine N2 Tryz.func90 rfl ?_;intros;rename_i hA
 cbv
 repeat ((with_reducible apply f8 hA);cbv)
 refine y6 hA [1] h1 ⟨rfl,rfl,rfl,rfl,rfl,rfl,rfl⟩ ?_
 rintro res os2 ⟨es',rfl,hk',rfl,hm'⟩
 cbv
 repeat ((with_reducible apply f8 hA);cbv)
theorem c7d (t:Ty) (hN:t.parts.length≤1048576) (hnm:∀x∈t.parts,x.name.size≤1048576):o9 127 [.ag (cT t)] [.one (.sc (.bool (N0 t 114)))]:=by
 have h1:=b76 t hN hnm true [] (fun _=>none) SAt.nil
 rw [b46] at h1
 have e:N0 t (sI true)=N0 t 114:=rfl
 rw [e] at h1
 generalize N0 t 114=b at *
 generalize K4 t.parts (fun _=>none)=F at *
 obtain ⟨c0,c1,c2,c3,hc⟩:∃c0 c1 c2 c3,cT t=[c0,c1,c2,c3]:=by obtain ⟨op,nm,n,ks⟩:=t;exact ⟨_,_,_,_,by rw [cT]⟩
 rw [hc] at h1 ⊢
 refine N2 Tryz.func127 rfl ?_;intros;rename_i hA
 cbv
 repeat ((with_reducible apply f8 hA);cbv)
 refine y6 hA [1] h1 ⟨rfl,rfl,rfl,rfl,rfl,rfl,rfl⟩ ?_
 rintro res os2 ⟨es',rfl,hk',rfl,hm'⟩
 cbv
 repeat ((with_reducible apply f8 hA);cbv)
theorem c1P (t:Ty) (hN:t.parts.length≤1048576) (hnm:∀x∈t.parts,x.name.size≤1048576):o9 112 [.ag (cT t)] [.one (.sc (.bool (N0 t 116 || N0 t 114)))]:=by
 have h1:=c1O t hN hnm
 have h2:=c7d t hN hnm
 generalize N0 t 116=q1 at *
 generalize N0 t 114=q2 at *
 obtain ⟨c0,c1,c2,c3,hc⟩:∃c0 c1 c2 c3,cT t=[c0,c1,c2,c3]:=by obtain ⟨op,nm,n,ks⟩:=t;exact ⟨_,_,_,_,by rw [cT]⟩
 rw [hc] at h1 h2 ⊢
 refine N2 Tryz.func112 rfl ?_;intros;rename_i hA
 cbv;refine gn ?_
 refine f9 hA _ h1 ?_ ?_
 ·rfl
 cases q1
 ·cbv
  repeat ((with_reducible apply f8 hA);cbv)
  refine f9 hA _ h2 ?_ ?_
  ·rfl
  cbv
  repeat ((with_reducible apply f8 hA);cbv)
 ·cbv
  repeat ((with_reducible apply f8 hA);cbv)
theorem a7R:∀ {a b:List Ty},a.length≠b.length→N7 a b=false
 | [],[],h=>absurd rfl h
 | [],_::_,_=>by simp [N7]
 | _::_,[],_=>by simp [N7]
 | x::a,y::b,h=>by rw [N7,a7R (a:=a) (b:=b) (by simpa using h),d4I]
theorem b2T {a b:List Ty} {k:Nat} {x y:Ty} (hx:a[k]?=some x) (hy:b[k]?=some y):N7 (a.drop k) (b.drop k)=(a32 x y && N7 (a.drop (k+1)) (b.drop (k+1))):=by
 obtain ⟨h1,e1⟩:=d2Q.1 hx
 obtain ⟨h2,e2⟩:=d2Q.1 hy
 rw [d3r h1,d3r h2,e1,e2,N7]
def a1p (t:Ty):Bool:=N0 t 116 || N0 t 114
def Sm (t:Ty):Prop:=t.parts.length≤1048576∧∀x∈t.parts,x.name.size≤1048576
theorem a7S {t:Ty} {s:Int} (h:N0 t s=true):I9 E3 t s=true∧a7O t=true:=by
 unfold N0 at h
 rwa [d2Z] at h
theorem b2U {t:Ty} (h:a1p t=true):∃s,I9 E3 t s=true:=by
 unfold a1p at h
 rw [d36] at h
 rcases h with h|h
 ·exact ⟨_,(a7S h).1⟩
 ·exact ⟨_,(a7S h).1⟩
theorem b2V {t:Ty} (h:a1p t=true):F3 t:=by
 obtain ⟨s,h⟩:=b2U h
 exact a9T h
theorem o9.mono {f:Nat} {rs q q':List R} (h:o9 f rs q) (hq:∀I w v,a3D I w v q→a3D I w v q'):o9 f rs q' :=
 ⟨h.1,fun I w args h1 h2=>(h.2 I w args h1 h2).mono fun e w' ⟨v,e1,e2,e3⟩=>⟨v,e1,hq _ _ _ e2,e3⟩⟩
theorem AtD.empty {I:Nat→Nat→Prop} {w:World} {v:Value} {n:Nat} (m:Nat) (h:AtD I w v (.sl n [])):AtD I w v (.sl m []):=by
 generalize hr:([]:List (List D))=rows at h
 cases h with
 | nil A cap sz=>exact .nil _ _ _
 | sl b off cap sz rows us=>subst hr;exact .nil _ _ _
theorem E0.last {I:Nat→Nat→Prop} {w:World} {us:List Value} {xs:List D} {x y:D} (h:E0 I w us (xs++[x])) (hx:∀u,AtD I w u x→AtD I w u y):E0 I w us (xs++[y]):=by
 refine ⟨by have:=h.1;simpa using this,fun i u d hu hd=>?_⟩
 rcases d3M i xs.length with hlt|hge
 ·rw [d3n hlt] at hd
  exact h.2 i u d hu (by rw [d3n hlt];exact hd)
 ·rw [d3h hge] at hd
  obtain e:i - xs.length=0:=by
   have:=(d2Q.1 hd).1
   simp at this
   omega
  rw [e] at hd
  simp at hd
  subst hd
  exact hx u (h.2 i u x hu (by rw [d3h hge,e];rfl))
theorem o9.sl0 {f:Nat} {rs:List R} {a b c:D} {n:Nat} (m:Nat) (h:o9 f rs [.ag [a,b,c,.sl n []]]):o9 f rs [.ag [a,b,c,.sl m []]]:=h.mono fun I w v hv=>by
 obtain ⟨us,rfl,h2⟩:=hv
 exact ⟨us,rfl,E0.last (xs:=[a,b,c]) h2 fun u hu=>hu.empty m⟩
theorem c4y (t:Ty) (ht:Sm t):o9 141 [.ag (cT t)] [.ag (cT (if a1p t=true then y9 t else r7))]:=by
 have h1:=c1P t ht.1 ht.2
 have hb:(N0 t 116 || N0 t 114)=a1p t:=rfl
 rw [hb] at h1
 by_cases he:a1p t=true
 ·rw [d2S he]
  have h2:=c1L _ t (d3b _) ht.1 (b2V he)
  rw [he] at h1
  obtain ⟨a0,a1,a2,a3,ha⟩:=l8 t
  obtain ⟨c0,c1,c2,c3,hc⟩:=l8 (y9 t)
  rw [ha] at h1 h2
  rw [hc] at h2
  rw [ha,hc]
  refine N2 Tryz.func141 rfl fun qa qb qc qd qe qg qh qi qj qk ql qm qo qp qq qt qu qv qw qx qy qz va vc vd ve vf vg vh vj vk vl vm vn vo vp vq vr vt vu vv vw vx hA=>?_
  iterate 2 (try cbv;repeat ((first|with_reducible apply f8 hA|refine f9 hA _ h1 rfl ?_|refine f9 hA _ h2 rfl ?_);cbv))
 ·have he:a1p t=false:=by simpa using he
  rw [he,d2T (by simp)]
  rw [he] at h1
  obtain ⟨a0,a1,a2,a3,ha⟩:=l8 t
  rw [ha] at h1 ⊢
  unfold r7
  rw [cT,rT]
  refine o9.sl0 (n:=0) 4 ?_
  refine N2 Tryz.func141 rfl fun qa qb qc qd qe qg qh qi qj qk ql qm qo qp qq qt qu qv qw qx qy qz va vc vd ve vf vg vh vj vk vl vm vn vo vp vq vr vt vu vv vw vx hA=>?_
  iterate 2 (try cbv;repeat ((first|with_reducible apply f8 hA|refine f9 hA _ h1 rfl ?_);cbv))
theorem b5Y {W:ByteArray→Bool} {t:Ty}:∀ {s:Int},I9 W t s=true→∀x∈t.parts,∃c,I9 W x c=true:=by
 induction t using Ty.ind with
 | h t ih =>
  intro s h x hx
  rw [C4] at hx
  rcases d3d.1 hx with rfl|hx
  ·exact ⟨s,h⟩
  ·obtain ⟨y,hy,hxy⟩:=d3K.1 hx
   obtain ⟨k,hk,h1,h2,h3,h4,h5,h6⟩:=a7Q h
   obtain ⟨c,hc⟩:=a33 W _ _ h6 y hy
   exact ih y hy hc x hxy
theorem b8U {nm:ByteArray} (h:E3 nm=true):nm.size≤32:=by
 unfold E3 at h
 rw [d2Z] at h
 exact d3B h.1
theorem b5Z {t:Ty} {s:Int} (h:I9 E3 t s=true):t.name.size≤32:=by
 obtain ⟨k,hk,h1,h2,h3,-⟩:=a7Q h
 split at h3
 ·exact b8U h3
 ·have h4:t.name.toList=[]:=d3B h3
  have h5:t.name.data.toList=[]:=by rw [←ByteArray.toList_eq];exact h4
  have h6:t.name.size=t.name.data.toList.length:=by rw [d4l];rfl
  rw [h6,h5]
  simp
theorem c9q {t:Ty} {s:Int} (h:I9 E3 t s=true) (hN:t.parts.length≤1048576):Sm t:=⟨hN,fun x hx=>by
 obtain ⟨c,hc⟩:=b5Y h x hx
 have:=b5Z hc
 omega⟩
theorem b2W (ts:List Tok) (t:Tok) (a:Nat) (ht:ts[a]?=some t) (hl:ts.length≤1048576) (c:Int):v8 149 [.ptr 0 0,vi .u8 c] (eyB 0 0 (C9 ts) (a:Int)) (fun res os=>res=[]∧os=eyB c t.at_ (C9 ts) (a:Int)):=by
 have hp:=a4i ts t a ht hl
 unfold tkD rdB at hp
 unfold eyB
 generalize C9 ts=T at *
 generalize t.kind=tk at *
 generalize t.text=tx at *
 generalize t.n=tn at *
 generalize t.at_=ta at *
 generalize ((a:Nat):Int)=z at *
 refine Z5 Tryz.func149 rfl ?_;intro _ _ _ _ _ _ _ _ _ qk _ _ _ _ _ _ _ _ _ _ _ _ _ _ _ _ _ _ _ _ _ _ _ _ _ _ _ _ _ _ _ vw;intros;rename_i hA
 obtain ⟨e1,e2,e3,e4,e5,e6,e7,e8,e9⟩:=j7 hA
 have q1:qk 0 0=true:=by rw [e9];rfl
 have r0:=hp;exact I5
theorem c1Q (T:List (List D)) (e p z c:Int) (he:e≠0):v8 149 [.ptr 0 0,vi .u8 c] (eyB e p T z) (fun res os=>res=[]∧os=eyB e p T z):=by
 unfold eyB
 refine Z5 Tryz.func149 rfl ?_;intro _ _ _ _ _ _ _ _ _ qk _ _ _ _ _ _ _ _ _ _ _ _ _ _ _ _ _ _ _ _ _ _ _ _ _ _ _ _ _ _ _ vw;intros;rename_i hA
 obtain ⟨e1,e2,e3,e4,e5,e6,e7,e8,e9⟩:=j7 hA
 have q1:qk e 0=false:=by rw [e9];exact d2U he
 exact I5
theorem c4z (ts:List Tok) (t:Tok) (a:Nat) (ht:ts[a]?=some t) (hl:ts.length≤1048576) (s:ByteArray):v8 151 [.ptr 0 0,vs s] (eyB 0 0 (C9 ts) (a:Int)) (fun res os=>res=[vb (L7 t s)]∧os=eyB 0 0 (C9 ts) ((if L7 t s=true then a+1 else a:Nat):Int)):=by
 have hq:=b2E ts t a ht hl s
 unfold rdB at hq
 unfold eyB
 generalize C9 ts=T at *
 generalize L7 t s=b at *
 generalize ((if b=true then a+1 else a:Nat):Int)=y at *
 generalize ((a:Nat):Int)=z at *
 refine Z5 Tryz.func151 rfl ?_;intro _ _ _ _ _ _ _ _ _ qk;intros;rename_i hA
 obtain ⟨e1,e2,e3,e4,e5,e6,e7,e8,e9⟩:=j7 hA
 have q1:qk 0 0=true:=by rw [e9];rfl
 cases b
 ·iterate 2 (try cbv;repeat ((first|with_reducible apply f8 hA|rw [q1]|refine A4 hA [1] hq ?_);cbv))
  try simp (maxSteps:=4000000) only [nc] at *
  exact m9 hA [0,1] ⟨rfl,rfl,rfl,rfl,rfl,rfl,rfl,rfl⟩ ⟨rfl,rfl⟩
 ·iterate 2 (try cbv;repeat ((first|with_reducible apply f8 hA|rw [q1]|refine A4 hA [1] hq ?_);cbv))
  try simp (maxSteps:=4000000) only [nc] at *
  exact m9 hA [0,1] ⟨rfl,rfl,rfl,rfl,rfl,rfl,rfl,rfl⟩ ⟨rfl,rfl⟩
theorem c1R (T:List (List D)) (e p z:Int) (he:e≠0) (s:ByteArray):v8 151 [.ptr 0 0,vs s] (eyB e p T z) (fun res os=>res=[vb false]∧os=eyB e p T z):=by
 unfold eyB
 refine Z5 Tryz.func151 rfl ?_;intro _ _ _ _ _ _ _ _ _ qk _ _ _ _ _ _ _ _ _ _ _ _ _ _ _ _ _ _ _ _ _ _ _ _ _ _ _ _ _ _ _ vw;intros;rename_i hA
 obtain ⟨e1,e2,e3,e4,e5,e6,e7,e8,e9⟩:=j7 hA
 have q1:qk e 0=false:=by rw [e9];exact d2U he
 exact I5
theorem c40 (ts:List Tok) (t:Tok) (a:Nat) (ht:ts[a]?=some t) (hl:ts.length≤1048576) (s:ByteArray):v8 162 [.ptr 0 0,vs s] (eyB 0 0 (C9 ts) (a:Int)) (fun res os=>res=[]∧os=if L7 t s=true then eyB 0 0 (C9 ts) ((a+1:Nat):Int) else eyB 5 t.at_ (C9 ts) (a:Int)):=by
 have hq:=b2E ts t a ht hl s
 have hf:=b2W ts t a ht hl 5
 unfold rdB at hq
 unfold eyB at hf ⊢
 generalize C9 ts=T at *
 generalize L7 t s=b at *
 generalize t.at_=ta at *
 cases b
 ·rw [d2T (by decide)] at hq
  rw [d2T (by decide)]
  generalize ((a:Nat):Int)=z at *
  refine Z5 Tryz.func162 rfl fun qa qb qc qd qe qg qh qi qj qk ql qm qo qp qq qt qu qv qw qx qy qz va vc vd ve vf vg vh vj vk vl vm vn vo vp vq vr vt vu vv vw vx hA=>?_
  obtain ⟨e1,e2,e3,e4,e5,e6,e7,e8,e9⟩:=j7 hA
  have q1:qk 0 0=true:=by rw [e9];rfl
  iterate 2 (try cbv;repeat ((first|with_reducible apply f8 hA|rw [q1]|refine A4 hA [1] hq ?_|refine A4 hA [0,1] hf ?_);cbv))
  try simp (maxSteps:=4000000) only [nc] at *
  exact m9 hA [0,1] ⟨rfl,rfl,rfl,rfl,rfl,rfl,rfl,rfl⟩ ⟨rfl,rfl⟩
 ·rw [d2S rfl] at hq
  rw [d2S rfl]
  generalize ((a+1:Nat):Int)=y at *
  generalize ((a:Nat):Int)=z at *
  refine Z5 Tryz.func162 rfl fun qa qb qc qd qe qg qh qi qj qk ql qm qo qp qq qt qu qv qw qx qy qz va vc vd ve vf vg vh vj vk vl vm vn vo vp vq vr vt vu vv vw vx hA=>?_
  obtain ⟨e1,e2,e3,e4,e5,e6,e7,e8,e9⟩:=j7 hA
  have q1:qk 0 0=true:=by rw [e9];rfl
  iterate 2 (try cbv;repeat ((first|with_reducible apply f8 hA|rw [q1]|refine A4 hA [1] hq ?_);cbv))
  try simp (maxSteps:=4000000) only [nc] at *
  exact m9 hA [0,1] ⟨rfl,rfl,rfl,rfl,rfl,rfl,rfl,rfl⟩ ⟨rfl,rfl⟩
theorem c1S (T:List (List D)) (e p z:Int) (he:e≠0) (s:ByteArray):v8 162 [.ptr 0 0,vs s] (eyB e p T z) (fun res os=>res=[]∧os=eyB e p T z):=by
 unfold eyB
 refine Z5 Tryz.func162 rfl ?_;intro _ _ _ _ _ _ _ _ _ qk _ _ _ _ _ _ _ _ _ _ _ _ _ _ _ _ _ _ _ _ _ _ _ _ _ _ _ _ _ _ _ vw;intros;rename_i hA
 obtain ⟨e1,e2,e3,e4,e5,e6,e7,e8,e9⟩:=j7 hA
 have q1:qk e 0=false:=by rw [e9];exact d2U he
 exact I5
theorem v8.reread {f:Nat} {vs:List V} {os:List O} {Q Q2:List V→List O→Prop} (h:v8 f vs os Q) (hQ:∀res os2,Q res os2→∃res2,Q2 res2 os2∧∀(I:Nat→Nat→Prop) (w:World) (g:Nat→Value) (us:List Value),m8 I w g us res→m8 I w g us res2):v8 f vs os Q2 :=
 ⟨h.1,fun I w g args hr=>(h.2 I w g args hr).mono fun e w' ⟨us,res,os2,I',g',e1,e2,e3⟩=>by
  obtain ⟨res2,q,hv⟩:=hQ res os2 e2
  exact ⟨us,res2,os2,I',g',e1,q,⟨e3.im,e3.lt,e3.fr,e3.kp,e3.lo,e3.st,e3.obj,e3.dis,e3.out,hv _ _ _ _ e3.tmp,e3.dfr⟩⟩⟩
theorem nil4 {I:Nat→Nat→Prop} {w:World} {g:Nat→Value} {us:List Value} {a b c:V} {z:Nat} (h:m8 I w g us [.ag [a,b,c,.em]]):m8 I w g us [.ag [a,b,c,.d (.sl z [])]] :=
 h.reset (i:=0) fun v hv=>by
  have h4:=h.2 0 v _ hv rfl
  obtain ⟨ks,rfl,h5⟩:=h4.unag
  exact Y4 (h5.reset (i:=3) fun v hv=>by rw [(h5.2 3 v _ hv rfl).unem];exact .d (.nil _ _ _))
theorem v8.nil4 {f:Nat} {vs:List V} {os os':List O} {a b c:V} {z:Nat} (h:v8 f vs os (fun res os2=>res=[.ag [a,b,c,.em]]∧os2=os')):v8 f vs os (fun res os2=>res=[.ag [a,b,c,.d (.sl z [])]]∧os2=os') :=
 h.reread fun res os2 ⟨h1,h2⟩=>⟨_,⟨rfl,h2⟩,fun I w g us hv=>Vm.nil4 (h1 ▸ hv)⟩
theorem a71:A7 (cT r7)=[.d (.sc (.int .u8 0)),.d (.sc (.string ⟨#[]⟩)),.d (.sc (.int .i64 0)),.d (.sl 4 [])]:=by
 unfold r7
 rw [cT,rT]
 rfl
theorem b8V (T:List (List D)) (e p z L:Int) (he:e≠0):v8 140 [.ptr 0 0,vi .i64 L] (eyB e p T z) (fun res os=>res=[.ag (A7 (cT r7))]∧os=eyB e p T z):=by
 unfold eyB
 rw [a71]
 refine v8.nil4 ?_
 refine Z5 Tryz.func140 rfl ?_;intro _ _ _ _ _ _ _ _ _ qk _ _ _ _ _ _ _ _ _ _ _ _ _ _ _ _ _ _ _ _ _ _ _ _ _ _ _ _ _ _ _ vw;intros;rename_i hA
 obtain ⟨e1,e2,e3,e4,e5,e6,e7,e8,e9⟩:=j7 hA
 have q1:qk e 0=false:=by rw [e9];exact d2U he
 exact I5
theorem b6a (ts:List Tok) (t:Tok) (a:Nat) (ht:ts[a]?=some t) (hl:ts.length≤1048576) (L:Int) (hL:200<L):v8 140 [.ptr 0 0,vi .i64 L] (eyB 0 0 (C9 ts) (a:Int)) (fun res os=>res=[.ag (A7 (cT r7))]∧os=eyB 6 t.at_ (C9 ts) (a:Int)):=by
 have hf:=b2W ts t a ht hl 6
 unfold eyB at *
 rw [a71]
 refine v8.nil4 ?_
 generalize C9 ts=T at *
 generalize t.at_=ta at *
 generalize ((a:Nat):Int)=z at *
 refine Z5 Tryz.func140 rfl ?_;intro _ _ _ _ _ _ _ qi _ qk _ _ _ _ _ _ _ _ _ _ _ _ _ _ _ _ _ _ _ _ _ _ _ _ _ _ _ _ _ _ _ vw;intros;rename_i hA
 obtain ⟨e1,e2,e3,e4,e5,e6,e7,e8,e9⟩:=j7 hA
 have q1:qk 0 0=true:=by rw [e9];rfl
 have q2:qi 200 L=true:=by rw [e7];exact d3a hL
 have p0:=hf;exact I5
inductive LikeD:D→D→Prop
 | refl (d:D):LikeD d d
 | nil (n m:Nat):LikeD (.sl n []) (.sl m [])
 | sl (sz:Nat) (rows rows':List (List D)) (hl:rows.length=rows'.length) (hr:∀r∈rows',r.length=sz) (hf:rows.flatten.length=rows'.flatten.length)
   (h:∀(i:Nat) (d d':D),rows.flatten[i]?=some d→rows'.flatten[i]?=some d'→LikeD d d'):LikeD (.sl sz rows) (.sl sz rows')
theorem LikeD.at {d d':D} (h:LikeD d d'):∀ {I:Nat→Nat→Prop} {w:World} {v:Value},AtD I w v d→AtD I w v d':=by
 induction h with
 | refl d=>exact fun h=>h
 | nil n m=>exact fun h=>h.empty m
 | sl sz rows rows' hl hr hf _ ih =>
  intro I w v h
  generalize hd:D.sl sz rows=d at h
  cases h with
  | sc v hv=>cases hd
  | nil A cap sz2 =>
   injection hd with e1 e2
   subst e2
   have:rows'=[]:=d3w (by rw [←hl];rfl)
   subst this
   exact .nil _ _ _
  | sl b off cap sz2 rows2 us hcap hI hr2 hlen hc hdd =>
   injection hd with e1 e2
   subst e1
   subst e2
   rw [hl]
   refine .sl b off cap sz rows' us (by omega) (by rw [←hl];exact hI) hr (by rw [←hl];exact hlen) hc fun i u d' hu hd'=>?_
   have hlt:i<rows.flatten.length:=by rw [hf];exact (d2Q.1 hd').1
   exact ih i _ d' (d2P hlt) hd' (hdd i u _ hu (d2P hlt))
def a35 (ds ds':List D):Prop:=ds.length=ds'.length∧∀(i:Nat) (d d':D),ds[i]?=some d→ds'[i]?=some d'→LikeD d d'
theorem a35.at {ds ds':List D} (h:a35 ds ds') {I:Nat→Nat→Prop} {w:World} {us:List Value} (hu:E0 I w us ds):E0 I w us ds' :=
 ⟨hu.1.trans h.1,fun i u d' hui hd'=>by
  have hlt:i<ds.length:=by rw [h.1];exact (d2Q.1 hd').1
  exact (h.2 i _ d' (d2P hlt) hd').at (hu.2 i u _ hui (d2P hlt))⟩
inductive LikeR:R→R→Prop
 | one {d d':D} (h:LikeD d d'):LikeR (.one d) (.one d')
 | ag {ds ds':List D} (h:a35 ds ds'):LikeR (.ag ds) (.ag ds')
theorem LikeR.at {r r':R} (h:LikeR r r') {I:Nat→Nat→Prop} {w:World} {v:Value} (hv:AtR I w v r):AtR I w v r':=by
 cases h with
 | one h=>exact h.at hv
 | ag h=>obtain ⟨us,e,h2⟩:=hv;exact ⟨us,e,h.at h2⟩
def a4t:List R→List R→Prop
 | [],[]=>True
 | r::rs,r'::rs'=>LikeR r r'∧a4t rs rs'
 | _,_=>False
theorem a4t.at:∀ {rs rs':List R},a4t rs rs'→∀ {I:Nat→Nat→Prop} {w:World} {us:List Value},a5u I w us rs→a5u I w us rs'
 | [],[],_,_,_,us,h=>h
 | r::rs,r'::rs',h,I,w,us,hu=>by
  match us,hu with
  | u::us,hu=>exact ⟨h.1.at hu.1,a4t.at h.2 hu.2⟩
theorem o9.like {f:Nat} {rs rs' q:List R} (h:o9 f rs q) (hl:a4t rs' rs):o9 f rs' q:=⟨h.1,fun I w args hI hat=>h.2 I w args hI (hl.at hat)⟩
theorem a4t.res:∀ {q q':List R},a4t q q'→∀ {I:Nat→Nat→Prop} {w:World} {v:Value},a3D I w v q→a3D I w v q'
 | [],[],_,_,_,v,h=>h
 | [r],[r'],h,_,_,v,hv=>h.1.at hv
 | r::s::rs,r'::s'::rs',h,_,_,v,hv=>by
  obtain ⟨us,e,h2⟩:=hv
  exact ⟨us,e,h.at h2⟩
theorem o9.likeq {f:Nat} {rs q q':List R} (h:o9 f rs q) (hl:a4t q q'):o9 f rs q':=h.mono fun I w v hv=>hl.res hv
theorem LikeR.same (r:R):LikeR r r:=by
 cases r with
 | one x=>exact .one (.refl _)
 | ag xs=>exact .ag ⟨rfl,fun i d d' h h'=>by rw [h] at h';cases h';exact .refl _⟩
theorem a35.nil:a35 [] []:=⟨rfl,fun i d d' h=>by simp at h⟩
theorem a35.cons {d d':D} {ds ds':List D} (h:LikeD d d') (hs:a35 ds ds'):a35 (d::ds) (d'::ds') :=
 ⟨by simp [hs.1],fun i x y hx hy=>by
  cases i with
  | zero=>simp at hx hy;subst hx;subst hy;exact h
  | succ i=>exact hs.2 i x y (by simpa using hx) (by simpa using hy)⟩
abbrev lfT (op:Int):Ty:=.mk op F8 0 []
def lf0 (op:Int):List D:=[.sc (.int .u8 op),.sc (.string F8),.sc (.int .i64 0),.sl 0 []]
theorem a2p (op:Int):LikeR (.ag (lf0 op)) (.ag [.sc (.int .u8 op),.sc (.string F8),.sc (.int .i64 0),.sl 4 []]) :=
 .ag ⟨rfl,fun i d d' h h'=>by
  match i,h,h' with
  | 0,h,h'=>cases h;cases h';exact .refl _
  | 1,h,h'=>cases h;cases h';exact .refl _
  | 2,h,h'=>cases h;cases h';exact .refl _
  | 3,h,h'=>cases h;cases h';exact .nil _ _⟩
theorem c9r:o9 159 [] [.ag (cT (lfT 1))]:=by
 rw [cT,rT]
 refine o9.likeq (q:=[.ag (lf0 1)]) ?_ ⟨a2p 1,trivial⟩
 unfold lf0
 refine N2 Tryz.func159 rfl ?_;intros;rename_i hA
 try cbv;exact fr
theorem c7e:o9 160 [] [.ag (cT (lfT 2))]:=by
 rw [cT,rT]
 refine o9.likeq (q:=[.ag (lf0 2)]) ?_ ⟨a2p 2,trivial⟩
 unfold lf0
 refine N2 Tryz.func160 rfl ?_;intros;rename_i hA
 try cbv;exact fr
theorem c9s:o9 161 [] [.ag (cT (lfT 3))]:=by
 rw [cT,rT]
 refine o9.likeq (q:=[.ag (lf0 3)]) ?_ ⟨a2p 3,trivial⟩
 unfold lf0
 refine N2 Tryz.func161 rfl ?_;intros;rename_i hA
 try cbv;exact fr
theorem c9t (t:Ty) (h:t.parts.length≤1048576):o9 164 [.ag (cT t)] [.ag (cT (.mk 5 F8 0 [t]))]:=by
 have hc:=a18 t h
 rw [show cT (.mk 5 F8 0 [t])=[.sc (.int .u8 5),.sc (.string F8),.sc (.int .i64 0),.sl 4 [cT t]] by rw [cT,rT,rT]]
 obtain ⟨a0,a1,a2,a3,ha⟩:=l8 t
 rw [ha] at hc ⊢
 refine N2 Tryz.func164 rfl ?_;intros;rename_i hA
 try cbv;exact fr
theorem c9u (t:Ty) (h:t.parts.length≤1048576):o9 165 [.ag (cT t)] [.ag (cT (.mk 6 F8 0 [t]))]:=by
 have hc:=a18 t h
 rw [show cT (.mk 6 F8 0 [t])=[.sc (.int .u8 6),.sc (.string F8),.sc (.int .i64 0),.sl 4 [cT t]] by rw [cT,rT,rT]]
 obtain ⟨a0,a1,a2,a3,ha⟩:=l8 t
 rw [ha] at hc ⊢
 refine N2 Tryz.func165 rfl ?_;intros;rename_i hA
 try cbv;exact fr
theorem c9v (t u:Ty) (h:t.parts.length≤1048576) (hu:u.parts.length≤1048576):o9 152 [.ag (cT t),.ag (cT u)] [.ag (cT (.mk 4 F8 0 [t,u]))]:=by
 have hc:=a18 t h
 have hc2:=a18 u hu
 rw [show cT (.mk 4 F8 0 [t,u])=[.sc (.int .u8 4),.sc (.string F8),.sc (.int .i64 0),.sl 4 [cT t,cT u]] by rw [cT,rT,rT,rT]]
 obtain ⟨a0,a1,a2,a3,ha⟩:=l8 t
 obtain ⟨b0,b1,b2,b3,hb⟩:=l8 u
 rw [ha] at hc ⊢
 rw [hb] at hc2 ⊢
 refine N2 Tryz.func152 rfl ?_;intros;rename_i hA
 iterate 2 (try cbv;repeat ((first|with_reducible apply f8 hA|refine f9 hA _ hc rfl ?_|refine i7 hA _ hc ?_|refine f9 hA _ hc2 rfl ?_|refine i7 hA _ hc2 ?_|refine A6 hA true ?_);cbv))
theorem c7f (fs:List (ByteArray×Ty)) (tl:Ty) (hn:fs.length≤1048576) (htl:tl.parts.length≤1048576) (hf:∀f∈fs,f.2.parts.length≤1048576):o9 139 [.one (.sl 5 (rF fs)),.ag (cT tl)] [.ag (cT (a0y fs tl))]:=by
 have hct:=a18 tl htl
 have hj:=a9W tl fs
 have hcf:∀r∈rF fs,∃nm c0 c1 c2 c3,r=[nm,c0,c1,c2,c3]∧o9 147 [.ag [c0,c1,c2,c3]] [.ag [c0,c1,c2,c3]]:=fun r hr=>by
  obtain ⟨f,hf0,rfl⟩:=d4r.1 hr
  have h3:=a18 f.2 (hf f hf0)
  obtain ⟨c0,c1,c2,c3,hcc⟩:=l8 f.2
  rw [hcc] at h3
  exact ⟨_,c0,c1,c2,c3,by show D.sc _::cT f.2=_;rw [hcc],h3⟩
 obtain ⟨q0,q1,q2,q3,hq⟩:=l8 tl
 rw [hq] at hct hj ⊢
 have hJ:=c1K (rF fs) q0 q1 q2 q3 (by rw [a1G];omega) hct hcf
 rw [hj] at hJ
 exact hJ
def E6 (rd:PE→Ty×PE) (ts:List Tok) (p:PE):(ByteArray×Ty)×PE :=
 if (j6 ts p.1).kind≠1 then ((F8,r7),E7 5 p)
 else (((j6 ts p.1).text,(rd (j0 ts a2G (p.1+1,p.2))).1),(rd (j0 ts a2G (p.1+1,p.2))).2)
def M3 (rd:PE→Ty×PE) (ts:List Tok):Nat→PE→List (ByteArray×Ty)→List (ByteArray×Ty)×PE
 | 0,p,l=>(l,p)
 | k+1,p,l=>if A2 ts a1F p=true then M3 rd ts k (E6 rd ts (p.1+1,0)).2 (l++[(E6 rd ts (p.1+1,0)).1]) else (l,p)
def M4 (rd:PE→Ty×PE) (ts:List Tok) (p:PE):List (ByteArray×Ty)×PE :=
 if (j6 ts p.1).kind=1 then M3 rd ts ts.length (E6 rd ts p).2 [(E6 rd ts p).1] else ([],p)
def tlW (ts:List Tok) (l:List (ByteArray×Ty)) (p:PE):Ty×PE :=
 if A2 ts a1T p=true then (a0y l (lfT 9),j0 ts J7 (p.1+1,0)) else (a0y l (lfT 8),p)
def a2x (rd:PE→Ty×PE) (ts:List Tok) (p:PE):Ty×PE:=tlW ts (M4 rd ts p).1 (M4 rd ts p).2
def Q8 (rd:PE→Ty×PE) (ts:List Tok) (p:PE):Ty×PE :=
 if A2 ts T4 p=true then (lfT 1,(p.1+1,0))
 else if A2 ts G7 p=true then (lfT 2,(p.1+1,0))
 else if A2 ts J7 p=true then (lfT 3,(p.1+1,0))
 else if A2 ts U5 p=true then ((rd (p.1+1,0)).1,j0 ts a5k (rd (p.1+1,0)).2)
 else if A2 ts a5E p=true then (.mk 5 F8 0 [(a2x rd ts (p.1+1,0)).1],j0 ts a63 (a2x rd ts (p.1+1,0)).2)
 else if A2 ts a3h p=true then (.mk 6 F8 0 [(a2x rd ts (p.1+1,0)).1],j0 ts a64 (a2x rd ts (p.1+1,0)).2)
 else (r7,E7 5 p)
def n9 (ts:List Tok):Nat→PE→Ty×PE
 | 0,p=>(r7,E7 6 p)
 | n+1,p =>
  if p.2≠0 then (r7,p)
  else if A2 ts gTo (Q8 (n9 ts n) ts p).2=true then
   (.mk 4 F8 0 [(Q8 (n9 ts n) ts p).1,(n9 ts n ((Q8 (n9 ts n) ts p).2.1+1,0)).1],(n9 ts n ((Q8 (n9 ts n) ts p).2.1+1,0)).2)
  else Q8 (n9 ts n) ts p
structure Fit (ts:List Tok) (p:PE) (r:Ty×PE) (k:Nat):Prop where
 lo:p.1≤r.2.1
 hi:r.2.1<ts.length
 sz:r.1.parts.length+p.1≤r.2.1+2
 ok:r.2.2=0→p.2=0∧r.1.parts.length+p.1≤r.2.1+k
 sp:F3 r.1
theorem a2q (op:Int):(lfT op).parts.length=1:=by rw [C4];rfl
theorem a0Z:r7.parts.length=1:=a2q 0
theorem a36 (op:Int) (h:op≠11):F3 (lfT op):=.mk (a7y h) fun x hx=>by cases hx
theorem a37:F3 r7:=a36 0 (by decide)
theorem b1B (op:Int) (nm:ByteArray) (n:Int) (t:Ty):(Ty.mk op nm n [t]).parts.length=1+t.parts.length:=by rw [C4];simp only [Ty.kids,d3j,d3m,d3f,d2X];omega
theorem b1C (op:Int) (nm:ByteArray) (n:Int) (t u:Ty):(Ty.mk op nm n [t,u]).parts.length=1+t.parts.length+u.parts.length:=by rw [C4];simp only [Ty.kids,d3j,d3m,d3f,d2X,d2R];omega
theorem b8X {op:Int} {nm:ByteArray} {n:Int} {t:Ty} (h:op≠11) (ht:F3 t):F3 (.mk op nm n [t]):=.mk (a7y h) fun x hx=>by
 cases hx with
 | head=>exact ht
 | tail _ hx=>cases hx
theorem b8Y {op:Int} {nm:ByteArray} {n:Int} {t u:Ty} (h:op≠11) (ht:F3 t) (hu:F3 u):F3 (.mk op nm n [t,u]):=.mk (a7y h) fun x hx=>by
 cases hx with
 | head=>exact ht
 | tail _ hx=>cases hx with
  | head=>exact hu
  | tail _ hx=>cases hx
theorem b47 (l:List (ByteArray×Ty)) (f:ByteArray×Ty):A5 (l++[f])=A5 l+(1+f.2.parts.length):=by unfold A5;rw [d3Q,List.sum_append];simp
theorem a83 (l:List (ByteArray×Ty)):2 * l.length≤A5 l∧∀f∈l,f.2.parts.length≤A5 l:=by
 induction l with
 | nil=>exact ⟨d3b _,fun f hf=>by cases hf⟩
 | cons a l ih =>
  have h:A5 (a::l)=(1+a.2.parts.length)+A5 l:=by unfold A5;simp
  have:=H5 a.2
  rw [h,d2X]
  refine ⟨by omega,fun f hf=>?_⟩
  cases hf with
  | head=>omega
  | tail _ hf=>have:=ih.2 f hf;omega
def a8g (ts:List Tok) (rd:PE→Ty×PE):Prop:=∀p:PE,p.1<ts.length→Fit ts p (rd p) 0∧(p.2≠0→rd p=(r7,p))
structure FitF (ts:List Tok) (p:PE) (r:(ByteArray×Ty)×PE):Prop where
 lo:p.1≤r.2.1
 hi:r.2.1<ts.length
 sz:r.1.2.parts.length+p.1≤r.2.1+1
 sw:(j6 ts p.1).kind=1→r.1.2.parts.length+p.1≤r.2.1
 ok:r.2.2=0→p.2=0∧r.1.2.parts.length+p.1+2≤r.2.1
 sp:F3 r.1.2
theorem a2a {ts:List Tok} {rd:PE→Ty×PE} (hE:o5 ts) (hr:a8g ts rd) (p:PE) (hp:p.1<ts.length):FitF ts p (E6 rd ts p):=by
 unfold E6
 by_cases hk:(j6 ts p.1).kind≠1
 ·rw [d2S hk]
  obtain ⟨f1,f2⟩:=G2 5 (by decide) p
  exact ⟨by rw [f1];exact d3b _,by rw [f1];exact hp,by show r7.parts.length+_≤_;rw [a0Z,f1];omega,fun h=>absurd h hk,fun h=>absurd h f2,a37⟩
 ·rw [d2T hk]
  replace hk:=d4E.1 hk
  have h1:=hE _ hp (by rw [hk];decide)
  obtain ⟨w1,w2,w3⟩:=j8 (s:=a2G) (p:=(p.1+1,p.2)) hE h1
  generalize j0 ts a2G (p.1+1,p.2)=q at *
  obtain ⟨hq,hz⟩:=hr q w1
  simp only at w2 w3
  have key:(rd q).1.parts.length+p.1≤(rd q).2.1:=by
   have:=hq.sz
   by_cases hq0:q.2=0
   ·have:=(w3 hq0).2;omega
   ·rw [hz hq0];show r7.parts.length+_≤q.1;rw [a0Z];omega
  generalize rd q=r at *
  obtain ⟨a1,a2,a3,a4,a5⟩:=hq
  exact ⟨by show p.1≤r.2.1;omega,a2,by show r.1.parts.length+_≤r.2.1+1;omega,fun _=>key,fun h=>by
   have h3:=a4 h
   have h4:=w3 h3.1
   refine ⟨h4.1,?_⟩
   show r.1.parts.length+_+_≤r.2.1
   omega,a5⟩
structure FitL (ts:List Tok) (p:PE) (r:List (ByteArray×Ty)×PE):Prop where
 lo:p.1≤r.2.1
 hi:r.2.1<ts.length
 sz:A5 r.1+p.1≤r.2.1+1
 ok:r.2.2=0→p.2=0∧A5 r.1+p.1≤r.2.1
 sp:∀f∈r.1,F3 f.2
theorem a5N {ts:List Tok} {rd:PE→Ty×PE} (hE:o5 ts) (hr:a8g ts rd) (p0:PE):∀(k:Nat) (p:PE) (l:List (ByteArray×Ty)),FitL ts p0 (l,p)→FitL ts p0 (M3 rd ts k p l)
 | 0,p,l,h=>h
 | k+1,p,l,h=>by
  rw [M3]
  by_cases hs:A2 ts a1F p=true
  ·rw [d2S hs]
   obtain ⟨s1,s2⟩:=I8 hE h.hi hs
   have hf:=a2a hE hr (p.1+1,0) s2
   generalize E6 rd ts (p.1+1,0)=f at *
   obtain ⟨a1,a2,a3,a4,a5,a6⟩:=hf
   obtain ⟨b1,b2,b3,b4,b5⟩:=h
   simp only at *
   have b6:=b4 s1
   refine a5N hE hr p0 k f.2 (l++[f.1]) ⟨by show p0.1≤f.2.1;omega,a2,?_,fun h=>⟨b6.1,?_⟩,fun x hx=>?_⟩
   ·show A5 (l++[f.1])+p0.1≤f.2.1+1
    rw [b47];omega
   ·show A5 (l++[f.1])+p0.1≤f.2.1
    rw [b47];have:=(a5 h).2;omega
   ·rcases d38.1 hx with hx|hx
    ·exact b5 x hx
    ·cases d33.1 hx;exact a6
  ·rw [d2T hs];exact h
theorem a4u {ts:List Tok} {rd:PE→Ty×PE} (hE:o5 ts) (hr:a8g ts rd) (p:PE) (hp:p.1<ts.length):FitL ts p (M4 rd ts p):=by
 unfold M4
 by_cases hk:(j6 ts p.1).kind=1
 ·rw [d2S hk]
  have hf:=a2a hE hr p hp
  generalize E6 rd ts p=f at *
  obtain ⟨a1,a2,a3,a4,a5,a6⟩:=hf
  have e1:A5 [f.1]=1+f.1.2.parts.length:=rfl
  have a7:=a4 hk
  refine a5N hE hr p _ _ _ ⟨a1,a2,by show A5 [f.1]+_≤f.2.1+1;omega,fun h=>⟨(a5 h).1,by show A5 [f.1]+_≤f.2.1;have:=(a5 h).2;omega⟩,fun x hx=>?_⟩
  cases d33.1 hx
  exact a6
 ·rw [d2T hk]
  have e1:A5 []=0:=rfl
  exact ⟨d3b _,hp,by show A5 []+p.1≤p.1+1;omega,fun h=>⟨h,by show A5 []+p.1≤p.1;omega⟩,fun x hx=>by cases hx⟩
theorem b2X {ts:List Tok} {rd:PE→Ty×PE} (hE:o5 ts) (hr:a8g ts rd) (p:PE) (hp:p.1<ts.length):Fit ts p (a2x rd ts p) 1:=by
 unfold a2x
 have hh:=a4u hE hr p hp
 generalize M4 rd ts p=r at *
 obtain ⟨b1,b2,b3,b4,b5⟩:=hh
 unfold tlW
 have e1:∀o:Int,(a0y r.1 (lfT o)).parts.length=A5 r.1+1:=fun o=>by rw [a5J,a2q]
 by_cases hs:A2 ts a1T r.2=true
 ·rw [d2S hs]
  obtain ⟨s1,s2⟩:=I8 hE b2 hs
  obtain ⟨w1,w2,w3⟩:=j8 (s:=J7) (p:=(r.2.1+1,0)) hE s2
  have b6:=b4 s1
  generalize j0 ts J7 (r.2.1+1,0)=q at *
  simp only at w2 w3
  exact ⟨by show p.1≤q.1;omega,w1,by show (a0y r.1 (lfT 9)).parts.length+p.1≤q.1+2;rw [e1];omega,fun h=>⟨b6.1,by show (a0y r.1 (lfT 9)).parts.length+p.1≤q.1+1;rw [e1];omega⟩,a5L (a36 9 (by decide)) b5⟩
 ·rw [d2T hs]
  exact ⟨b1,b2,by show (a0y r.1 (lfT 8)).parts.length+p.1≤r.2.1+2;rw [e1];omega,fun h=>⟨(b4 h).1,by show (a0y r.1 (lfT 8)).parts.length+p.1≤r.2.1+1;rw [e1];have:=(b4 h).2;omega⟩,a5L (a36 8 (by decide)) b5⟩
theorem a9Z {ts:List Tok} {p:PE} {s:ByteArray} (op:Int) (ho:op≠11) (hE:o5 ts) (hp:p.1<ts.length) (h:A2 ts s p=true):Fit ts p (lfT op,(p.1+1,0)) 0:=by
 obtain ⟨s1,s2⟩:=I8 hE hp h
 exact ⟨Nat.le_succ _,s2,by show (lfT op).parts.length+p.1≤p.1+1+2;rw [a2q];omega,fun _=>⟨s1,by show (lfT op).parts.length+p.1≤p.1+1+0;rw [a2q];omega⟩,a36 op ho⟩
theorem b48 {ts:List Tok} {p:PE} {s c:ByteArray} (op:Int) (ho:op≠11) (hE:o5 ts) (hp:p.1<ts.length) (h:A2 ts s p=true) {r:Ty×PE} (hr:Fit ts (p.1+1,0) r 1):Fit ts p (.mk op F8 0 [r.1],j0 ts c r.2) 0:=by
 obtain ⟨s1,s2⟩:=I8 hE hp h
 obtain ⟨a1,a2,a3,a4,a5⟩:=hr
 obtain ⟨w1,w2,w3⟩:=j8 (s:=c) (p:=r.2) hE a2
 simp only at a1 a3 a4
 exact ⟨by show p.1≤(j0 ts c r.2).1;omega,w1,by show (Ty.mk op F8 0 [r.1]).parts.length+p.1≤(j0 ts c r.2).1+2;rw [b1B];omega,fun h=>⟨s1,by
  show (Ty.mk op F8 0 [r.1]).parts.length+p.1≤(j0 ts c r.2).1+0
  have h3:=w3 h
  have h4:=a4 h3.1
  rw [b1B];omega⟩,b8X ho a5⟩
theorem a6C {ts:List Tok} {rd:PE→Ty×PE} (hE:o5 ts) (hr:a8g ts rd) (p:PE) (hp:p.1<ts.length):Fit ts p (Q8 rd ts p) 0:=by
 unfold Q8
 by_cases h1:A2 ts T4 p=true
 ·rw [d2S h1];exact a9Z 1 (by decide) hE hp h1
 rw [d2T h1]
 by_cases h2:A2 ts G7 p=true
 ·rw [d2S h2];exact a9Z 2 (by decide) hE hp h2
 rw [d2T h2]
 by_cases h3:A2 ts J7 p=true
 ·rw [d2S h3];exact a9Z 3 (by decide) hE hp h3
 rw [d2T h3]
 by_cases h4:A2 ts U5 p=true
 ·rw [d2S h4]
  obtain ⟨s1,s2⟩:=I8 hE hp h4
  obtain ⟨hq,_⟩:=hr (p.1+1,0) s2
  generalize rd (p.1+1,0)=r at *
  obtain ⟨a1,a2,a3,a4,a5⟩:=hq
  obtain ⟨w1,w2,w3⟩:=j8 (s:=a5k) (p:=r.2) hE a2
  simp only at a1 a3 a4
  exact ⟨by show p.1≤(j0 ts a5k r.2).1;omega,w1,by show r.1.parts.length+p.1≤(j0 ts a5k r.2).1+2;omega,fun h=>⟨s1,by
   show r.1.parts.length+p.1≤(j0 ts a5k r.2).1+0
   have h3:=w3 h
   have h4:=a4 h3.1
   omega⟩,a5⟩
 rw [d2T h4]
 by_cases h5:A2 ts a5E p=true
 ·rw [d2S h5];exact b48 5 (by decide) hE hp h5 (b2X hE hr (p.1+1,0) (I8 hE hp h5).2)
 rw [d2T h5]
 by_cases h6:A2 ts a3h p=true
 ·rw [d2S h6];exact b48 6 (by decide) hE hp h6 (b2X hE hr (p.1+1,0) (I8 hE hp h6).2)
 rw [d2T h6]
 obtain ⟨f1,f2⟩:=G2 5 (by decide) p
 exact ⟨by rw [f1];exact d3b _,by rw [f1];exact hp,by show r7.parts.length+_≤_;rw [a0Z,f1];omega,fun h=>absurd h f2,a37⟩
theorem P7 {ts:List Tok} (hE:o5 ts):∀n:Nat,a8g ts (n9 ts n)
 | 0,p,hp=>by
  rw [n9]
  obtain ⟨f1,f2⟩:=G2 6 (by decide) p
  refine ⟨⟨by rw [f1];exact d3b _,by rw [f1];exact hp,by show r7.parts.length+_≤_;rw [a0Z,f1];omega,fun h=>absurd h f2,a37⟩,fun h=>?_⟩
  unfold E7
  rw [d2S h]
 | n+1,p,hp=>by
  have ih:=P7 hE n
  rw [n9]
  by_cases h0:p.2≠0
  ·rw [d2S h0]
   exact ⟨⟨d3b _,hp,by show r7.parts.length+p.1≤p.1+2;rw [a0Z];omega,fun h=>absurd h h0,a37⟩,fun _=>rfl⟩
  rw [d2T h0]
  refine ⟨?_,fun h=>absurd h h0⟩
  have ha:=a6C hE ih p hp
  generalize Q8 (n9 ts n) ts p=r at *
  by_cases hs:A2 ts gTo r.2=true
  ·rw [d2S hs]
   obtain ⟨a1,a2,a3,a4,a5⟩:=ha
   obtain ⟨s1,s2⟩:=I8 hE a2 hs
   obtain ⟨hq,_⟩:=ih (r.2.1+1,0) s2
   generalize n9 ts n (r.2.1+1,0)=u at *
   obtain ⟨b1,b2,b3,b4,b5⟩:=hq
   have a6:=a4 s1
   simp only at b1 b3 b4
   exact ⟨by show p.1≤u.2.1;omega,b2,by show (Ty.mk 4 F8 0 [r.1,u.1]).parts.length+p.1≤u.2.1+2;rw [b1C];omega,fun h=>⟨a6.1,by
    show (Ty.mk 4 F8 0 [r.1,u.1]).parts.length+p.1≤u.2.1+0
    have h4:=(b4 h).2
    rw [b1C];omega⟩,b8Y (by decide) a5 b5⟩
  ·rw [d2T hs];exact ha
section
abbrev SkN (T:List (List D)) (s:ByteArray) (b:Bool) (e q a e' q' a':Int):Prop:=v8 151 [.ptr 0 0,vs s] [.box [.ptr 1 0,.d (.sc (.int .u8 e)),.d (.sc (.int .i64 q))],.box [.d (.sl 4 T),.d (.sc (.int .i64 a))]] (fun res os=>res=[vb b]∧os=[.box [.ptr 1 0,.d (.sc (.int .u8 e')),.d (.sc (.int .i64 q'))],.box [.d (.sl 4 T),.d (.sc (.int .i64 a'))]])
abbrev WaN (T:List (List D)) (s:ByteArray) (e q a e' q' a':Int):Prop:=v8 162 [.ptr 0 0,vs s] [.box [.ptr 1 0,.d (.sc (.int .u8 e)),.d (.sc (.int .i64 q))],.box [.d (.sl 4 T),.d (.sc (.int .i64 a))]] (fun res os=>res=[]∧os=[.box [.ptr 1 0,.d (.sc (.int .u8 e')),.d (.sc (.int .i64 q'))],.box [.d (.sl 4 T),.d (.sc (.int .i64 a'))]])
abbrev FaN (T:List (List D)) (c:Int) (e q a e' q' a':Int):Prop:=v8 149 [.ptr 0 0,vi .u8 c] [.box [.ptr 1 0,.d (.sc (.int .u8 e)),.d (.sc (.int .i64 q))],.box [.d (.sl 4 T),.d (.sc (.int .i64 a))]] (fun res os=>res=[]∧os=[.box [.ptr 1 0,.d (.sc (.int .u8 e')),.d (.sc (.int .i64 q'))],.box [.d (.sl 4 T),.d (.sc (.int .i64 a'))]])
abbrev TyN (f:Nat) (T:List (List D)) (L:Int) (x:List V) (e q a e' q' a':Int):Prop:=v8 f [.ptr 0 0,vi .i64 L] [.box [.ptr 1 0,.d (.sc (.int .u8 e)),.d (.sc (.int .i64 q))],.box [.d (.sl 4 T),.d (.sc (.int .i64 a))]] (fun res os=>res=[.ag x]∧os=[.box [.ptr 1 0,.d (.sc (.int .u8 e')),.d (.sc (.int .i64 q'))],.box [.d (.sl 4 T),.d (.sc (.int .i64 a'))]])
section
variable {T:List (List D)} {L e q a e1 q1 a1 e2 q2 a2 e3 q3 a3:Int}
theorem c1T (h1:SkN T T4 true e q a e1 q1 a1):TyN 150 T L (A7 (cT (lfT 1))) e q a e1 q1 a1:=by
 have hi:=c9r
 rw [cT,rT] at hi ⊢
 refine Z5 Tryz.func150 rfl ?_;intro _ _ _ _ _ _ _ _ _ _ _ _ _ _ _ _ _ _ _ _ _ _ _ _ _ _ _ _ _ _ _ _ _ _ _ _ _ _ _ _ _ vw;intros;rename_i hA
 have h0:=hi;have p0:=h1;exact I5
theorem b8Z (h1:SkN T T4 false e q a e q a) (h2:SkN T G7 true e q a e1 q1 a1):TyN 150 T L (A7 (cT (lfT 2))) e q a e1 q1 a1:=by
 have hi:=c7e
 rw [cT,rT] at hi ⊢
 refine Z5 Tryz.func150 rfl ?_;intro _ _ _ _ _ _ _ _ _ _ _ _ _ _ _ _ _ _ _ _ _ _ _ _ _ _ _ _ _ _ _ _ _ _ _ _ _ _ _ _ _ vw;intros;rename_i hA
 have h0:=hi;have p0:=h1;have p1:=h2;exact I5
theorem c1U (h1:SkN T T4 false e q a e q a) (h2:SkN T G7 false e q a e q a) (h3:SkN T J7 true e q a e1 q1 a1):TyN 150 T L (A7 (cT (lfT 3))) e q a e1 q1 a1:=by
 have hi:=c9s
 rw [cT,rT] at hi ⊢
 refine Z5 Tryz.func150 rfl ?_;intro _ _ _ _ _ _ _ _ _ _ _ _ _ _ _ _ _ _ _ _ _ _ _ _ _ _ _ _ _ _ _ _ _ _ _ _ _ _ _ _ _ vw;intros;rename_i hA
 have h0:=hi;have p0:=h1;have p1:=h2;have p2:=h3;exact I5
theorem b9a {t:Ty} (hL:0≤L) (hL2:L≤1048576) (h1:SkN T T4 false e q a e q a) (h2:SkN T G7 false e q a e q a) (h3:SkN T J7 false e q a e q a) (h4:SkN T U5 true e q a e1 q1 a1) (hw:TyN 140 T (L+1) (A7 (cT t)) e1 q1 a1 e2 q2 a2) (hn:WaN T a5k e2 q2 a2 e3 q3 a3):TyN 150 T L (A7 (cT t)) e q a e3 q3 a3:=by
 obtain ⟨c0,c1,c2,c3,hc⟩:=l8 t
 rw [hc] at hw ⊢
 obtain ⟨L1,hL1⟩:∃L1,L1=L+1:=⟨_,rfl⟩
 rw [←hL1] at hw
 refine Z5 Tryz.func150 rfl ?_;intro qa qb _ _ _ _ _ _ _ _ _ _ _ _ _ _ _ _ _ _ _ _ _ _ _ _ _ _ _ _ _ _ _ _ _ _ _ _ _ _ _ vw;intros;rename_i hA
 obtain ⟨ee1,ee2,e3,e4,e5,e6,e7,e8,e9⟩:=j7 hA
 have g1:qa .i64 (qb L 1)=L1:=by rw [ee1,ee2,IntWalk.i64_in _ (by omega)];exact hL1.symm
 have q0:=g1;have p0:=h1;have p1:=h2;have p2:=h3;have p3:=h4;have p4:=hw;have p5:=hn;exact I5
theorem c1V {t:Ty} (ht:t.parts.length≤1048576) (h1:SkN T T4 false e q a e q a) (h2:SkN T G7 false e q a e q a) (h3:SkN T J7 false e q a e q a) (h4:SkN T U5 false e q a e q a) (h5:SkN T a5E true e q a e1 q1 a1) (hw:TyN 163 T L (A7 (cT t)) e1 q1 a1 e2 q2 a2) (hn:WaN T a63 e2 q2 a2 e3 q3 a3):TyN 150 T L (A7 (cT (.mk 5 F8 0 [t]))) e q a e3 q3 a3:=by
 have hr:=c9t t ht
 obtain ⟨c0,c1,c2,c3,hc⟩:=l8 t
 obtain ⟨d0,d1,d2,d3,hd⟩:=l8 (.mk 5 F8 0 [t])
 rw [hc] at hw hr
 rw [hd] at hr ⊢
 refine Z5 Tryz.func150 rfl ?_;intro _ _ _ _ _ _ _ _ _ _ _ _ _ _ _ _ _ _ _ _ _ _ _ _ _ _ _ _ _ _ _ _ _ _ _ _ _ _ _ _ _ vw;intros;rename_i hA
 have h0:=hr;have p0:=h1;have p1:=h2;have p2:=h3;have p3:=h4;have p4:=h5;have p5:=hw;have p6:=hn;exact I5
theorem c1W {t:Ty} (ht:t.parts.length≤1048576) (h1:SkN T T4 false e q a e q a) (h2:SkN T G7 false e q a e q a) (h3:SkN T J7 false e q a e q a) (h4:SkN T U5 false e q a e q a) (h5:SkN T a5E false e q a e q a) (h6:SkN T a3h true e q a e1 q1 a1) (hw:TyN 163 T L (A7 (cT t)) e1 q1 a1 e2 q2 a2) (hn:WaN T a64 e2 q2 a2 e3 q3 a3):TyN 150 T L (A7 (cT (.mk 6 F8 0 [t]))) e q a e3 q3 a3:=by
 have hr:=c9u t ht
 obtain ⟨c0,c1,c2,c3,hc⟩:=l8 t
 obtain ⟨d0,d1,d2,d3,hd⟩:=l8 (.mk 6 F8 0 [t])
 rw [hc] at hw hr
 rw [hd] at hr ⊢
 refine Z5 Tryz.func150 rfl ?_;intro _ _ _ _ _ _ _ _ _ _ _ _ _ _ _ _ _ _ _ _ _ _ _ _ _ _ _ _ _ _ _ _ _ _ _ _ _ _ _ _ _ vw;intros;rename_i hA
 have h0:=hr;have p0:=h1;have p1:=h2;have p2:=h3;have p3:=h4;have p4:=h5;have p5:=h6;have p6:=hw;have p7:=hn;exact I5
theorem b9b (h1:SkN T T4 false e q a e q a) (h2:SkN T G7 false e q a e q a) (h3:SkN T J7 false e q a e q a) (h4:SkN T U5 false e q a e q a) (h5:SkN T a5E false e q a e q a) (h6:SkN T a3h false e q a e q a) (hf:FaN T 5 e q a e1 q1 a1):TyN 150 T L (A7 (cT r7)) e q a e1 q1 a1:=by
 unfold TyN
 rw [a71]
 refine v8.nil4 ?_
 refine Z5 Tryz.func150 rfl ?_;intro _ _ _ _ _ _ _ _ _ _ _ _ _ _ _ _ _ _ _ _ _ _ _ _ _ _ _ _ _ _ _ _ _ _ _ _ _ _ _ _ _ vw;intros;rename_i hA
 have p0:=h1;have p1:=h2;have p2:=h3;have p3:=h4;have p4:=h5;have p5:=h6;have p6:=hf;exact I5
end
end
section
section
variable {T:List (List D)} {L e q a e1 q1 a1 e2 q2 a2 e3 q3 a3:Int}
theorem b6b {t:Ty} (hL2:L≤200) (h1:TyN 150 T L (A7 (cT t)) 0 q a e1 q1 a1) (h2:SkN T gTo false e1 q1 a1 e1 q1 a1):TyN 140 T L (A7 (cT t)) 0 q a e1 q1 a1:=by
 obtain ⟨c0,c1,c2,c3,hc⟩:=l8 t
 rw [hc] at h1 ⊢
 refine Z5 Tryz.func140 rfl ?_;intro _ _ _ _ _ _ _ qi _ qk _ _ _ _ _ _ _ _ _ _ _ _ _ _ _ _ _ _ _ _ _ _ _ _ _ _ _ _ _ _ _ vw;intros;rename_i hA
 obtain ⟨ee1,ee2,e3,e4,e5,e6,e7,e8,e9⟩:=j7 hA
 have g1:qk 0 0=true:=by rw [e9];rfl
 have g2:qi 200 L=false:=by rw [e7];exact d2U (by omega)
 have q0:=g1;have q1:=g2;have p0:=h1;have p1:=h2;exact I5
theorem b9c {t u:Ty} (ht:t.parts.length≤1048576) (hu:u.parts.length≤1048576) (hL1:0≤L) (hL2:L≤200) (h1:TyN 150 T L (A7 (cT t)) 0 q a e1 q1 a1) (h2:SkN T gTo true e1 q1 a1 e2 q2 a2) (h3:TyN 140 T (L+1) (A7 (cT u)) e2 q2 a2 e3 q3 a3):TyN 140 T L (A7 (cT (.mk 4 F8 0 [t,u]))) 0 q a e3 q3 a3:=by
 have hf:=c9v t u ht hu
 obtain ⟨c0,c1,c2,c3,hc⟩:=l8 t
 obtain ⟨b0,b1,b2,b3,hb⟩:=l8 u
 obtain ⟨d0,d1,d2,d3,hd⟩:=l8 (.mk 4 F8 0 [t,u])
 rw [hc] at h1 hf
 rw [hb] at h3 hf
 rw [hd] at hf ⊢
 obtain ⟨L1,hL⟩:∃L1,L1=L+1:=⟨_,rfl⟩
 rw [←hL] at h3
 have h3b:=v8.box h3 rfl
 refine Z5 Tryz.func140 rfl ?_;intro qa qb _ _ _ _ _ qi _ qk;intros;rename_i hA
 obtain ⟨ee1,ee2,e3,e4,e5,e6,e7,e8,e9⟩:=j7 hA
 have g1:qk 0 0=true:=by rw [e9];rfl
 have g2:qi 200 L=false:=by rw [e7];exact d2U (by omega)
 have g3:qa .i64 (qb L 1)=L1:=by rw [ee1,ee2,IntWalk.i64_in _ (by omega)];exact hL.symm
 iterate 2 (try cbv;repeat ((first|with_reducible apply f8 hA|rw [g1]|rw [g2]|rw [g3]|refine f9 hA _ hf rfl ?_|refine i7 hA _ hf ?_|refine A4 hA [0,1] h1 ?_|refine A4 hA [0,1] h2 ?_|(refine b3T hA [0,1] h3b ⟨rfl,rfl,rfl,rfl,rfl,rfl,rfl⟩ ?_;rintro _ _ ⟨rfl,rfl⟩;refine ⟨?_,?_⟩;exact a7J (fun k hk=>by injection hk with hk;subst hk;rfl) (a92 _ _ _)));cbv))
 try simp (maxSteps:=4000000) only [nc] at *
 exact m9 hA [0,1] ⟨rfl,rfl,rfl,rfl,rfl,rfl,rfl,rfl⟩ ⟨rfl,rfl⟩
theorem b6c {s0:ByteArray} {k n0 p0:Int} (hk:k≠1) (hp:B0 21 [.ptr 0 0] [.box [.d (.sl 4 T),.d (.sc (.int .i64 a))]] (fun res os=>res=[.ag [.d (.sc (.int .u8 k)),.d (.sc (.string s0)),.d (.sc (.int .i64 n0)),.d (.sc (.int .i64 p0))]]∧os=[.box [.d (.sl 4 T),.d (.sc (.int .i64 a))]])) (hf:FaN T 5 e q a e1 q1 a1) :
  TyN 171 T L [.d (.sc (.string F8)),.d (.sc (.int .u8 0)),.d (.sc (.string F8)),.d (.sc (.int .i64 0)),.em] e q a e1 q1 a1:=by
 refine Z5 Tryz.func171 rfl ?_;intro _ _ _ _ _ _ _ _ _ qk _ _ _ _ _ _ _ _ _ _ _ _ _ _ _ _ _ _ _ _ _ _ _ _ _ _ _ _ _ _ _ vw;intros;rename_i hA
 obtain ⟨ee1,ee2,e3,e4,e5,e6,e7,e8,e9⟩:=j7 hA
 have g1:qk k 1=false:=by rw [e9];exact d2U hk
 have q0:=g1;have r0:=hp;have p0:=hf;exact I5
theorem b6d {s0:ByteArray} {n0 p0:Int} {t:Ty} (hL1:0≤L) (hL2:L≤1048576) (hp:B0 21 [.ptr 0 0] [.box [.d (.sl 4 T),.d (.sc (.int .i64 a))]] (fun res os=>res=[.ag [.d (.sc (.int .u8 1)),.d (.sc (.string s0)),.d (.sc (.int .i64 n0)),.d (.sc (.int .i64 p0))]]∧os=[.box [.d (.sl 4 T),.d (.sc (.int .i64 a))]]))
  (hq:v8 34 [.ptr 0 0] [.box [.d (.sl 4 T),.d (.sc (.int .i64 a))]] (fun res os=>res=[.ag [.d (.sc (.int .u8 1)),.d (.sc (.string s0)),.d (.sc (.int .i64 n0)),.d (.sc (.int .i64 p0))]]∧os=[.box [.d (.sl 4 T),.d (.sc (.int .i64 a1))]]))
  (hn:WaN T a2G e q a1 e2 q2 a2) (hw:TyN 140 T (L+1) (A7 (cT t)) e2 q2 a2 e3 q3 a3) :
  TyN 171 T L (.d (.sc (.string s0))::A7 (cT t)) e q a e3 q3 a3:=by
 obtain ⟨c0,c1,c2,c3,hc⟩:=l8 t
 rw [hc] at hw ⊢
 obtain ⟨L1,hL⟩:∃L1,L1=L+1:=⟨_,rfl⟩
 rw [←hL] at hw
 refine Z5 Tryz.func171 rfl ?_;intro qa qb _ _ _ _ _ _ _ qk;intros;rename_i hA
 obtain ⟨ee1,ee2,e3,e4,e5,e6,e7,e8,e9⟩:=j7 hA
 have g1:qk 1 1=true:=by rw [e9];rfl
 have g3:qa .i64 (qb L 1)=L1:=by rw [ee1,ee2,IntWalk.i64_in _ (by omega)];exact hL.symm
 iterate 2 (try cbv;repeat ((first|with_reducible apply f8 hA|rw [g1]|rw [g3]|refine rdx hA [1] hp ?_|refine A4 hA [1] hq ?_|refine A4 hA [0,1] hn ?_|refine A4 hA [0,1] hw ?_);cbv))
 try simp (maxSteps:=4000000) only [nc] at *
 exact m9 hA [0,1] ⟨rfl,rfl,rfl,rfl,rfl,rfl,rfl,rfl⟩ ⟨rfl,rfl⟩
end
end
def cQ (ts:List Tok) (p:PE):Int:=if p.2=0 then 0 else (j6 ts p.1).at_
theorem c1X (ts:List Tok) {p:PE} (h:p.2=0):cQ ts p=0:=d2S h
theorem c9w (ts:List Tok) {p:PE} (h:p.2≠0):cQ ts p=(j6 ts p.1).at_:=d2T h
abbrev TyS (f:Nat) (ts:List Tok) (L:Int) (x:List V) (p p':PE):Prop:=TyN f (C9 ts) L x p.2 (cQ ts p) (p.1:Int) p'.2 (cQ ts p') (p'.1:Int)
theorem c1Y (ts:List Tok) (hl:ts.length≤1048576) (s:ByteArray) (p:PE) (hp:p.1<ts.length):SkN (C9 ts) s (A2 ts s p) p.2 (cQ ts p) (p.1:Int) (skP ts s p).2 (cQ ts (skP ts s p)) ((skP ts s p).1:Int):=by
 by_cases h0:p.2=0
 ·have h1:=c4z ts _ p.1 (P4 hp) hl s
  unfold eyB at h1
  have e1:A2 ts s p=L7 (j6 ts p.1) s:=by unfold A2;rw [h0];rfl
  unfold skP
  rw [e1,h0,c1X ts h0]
  by_cases hb:L7 (j6 ts p.1) s=true
  ·rw [d2S hb] at h1 ⊢
   exact h1
  ·rw [d2T hb] at h1 ⊢
   rw [h0,c1X ts h0]
   exact h1
 ·have h1:=c1R (C9 ts) p.2 (cQ ts p) (p.1:Int) h0 s
  unfold eyB at h1
  have e1:A2 ts s p=false:=by unfold A2;rw [d2Y h0];rfl
  unfold skP
  rw [e1,d2T (by decide)]
  exact h1
theorem a0D {ts:List Tok} (hl:ts.length≤1048576) {s:ByteArray} {p:PE} (hp:p.1<ts.length) (h:A2 ts s p=true):SkN (C9 ts) s true p.2 (cQ ts p) (p.1:Int) 0 0 ((p.1+1:Nat):Int):=by
 have h1:=c1Y ts hl s p hp
 unfold skP at h1
 rw [h,d2S rfl] at h1
 exact h1
theorem a1U {ts:List Tok} (hl:ts.length≤1048576) {s:ByteArray} {p:PE} (hp:p.1<ts.length) (h:¬A2 ts s p=true):SkN (C9 ts) s false p.2 (cQ ts p) (p.1:Int) p.2 (cQ ts p) (p.1:Int):=by
 have h1:=c1Y ts hl s p hp
 unfold skP at h1
 rw [d2T h,show A2 ts s p=false from d5c.2 h] at h1
 exact h1
theorem b0a (ts:List Tok) (hl:ts.length≤1048576) (s:ByteArray) (p:PE) (hp:p.1<ts.length):WaN (C9 ts) s p.2 (cQ ts p) (p.1:Int) (j0 ts s p).2 (cQ ts (j0 ts s p)) ((j0 ts s p).1:Int):=by
 by_cases h0:p.2=0
 ·have h1:=c40 ts _ p.1 (P4 hp) hl s
  unfold j0
  rw [d2T (fun h=>h h0),h0,c1X ts h0]
  by_cases hb:L7 (j6 ts p.1) s=true
  ·rw [d2S hb] at h1 ⊢
   unfold eyB at h1
   exact h1
  ·rw [d2T hb] at h1 ⊢
   unfold eyB at h1
   exact h1
 ·have h1:=c1S (C9 ts) p.2 (cQ ts p) (p.1:Int) h0 s
  unfold eyB at h1
  unfold j0
  rw [d2S h0]
  exact h1
theorem c1Z (ts:List Tok) (hl:ts.length≤1048576) (c:Int) (hc:c≠0) (p:PE) (hp:p.1<ts.length):FaN (C9 ts) c p.2 (cQ ts p) (p.1:Int) (E7 c p).2 (cQ ts (E7 c p)) ((E7 c p).1:Int):=by
 by_cases h0:p.2=0
 ·have h1:=b2W ts _ p.1 (P4 hp) hl c
  unfold eyB at h1
  unfold E7
  rw [d2T (fun h=>h h0),h0,c1X ts h0,c9w ts (p:=(p.1,c)) hc]
  exact h1
 ·have h1:=c1Q (C9 ts) p.2 (cQ ts p) (p.1:Int) c h0
  unfold eyB at h1
  unfold E7
  rw [d2S h0]
  exact h1
theorem d1u {I:Nat→Nat→Prop} {w:World} {g:Nat→Value} {us:List Value} {n a b c:V} {z:Nat} (h:m8 I w g us [.ag [n,a,b,c,.em]]):m8 I w g us [.ag [n,a,b,c,.d (.sl z [])]] :=
 h.reset (i:=0) fun v hv=>by
  have h4:=h.2 0 v _ hv rfl
  obtain ⟨ks,rfl,h5⟩:=h4.unag
  exact Y4 (h5.reset (i:=4) fun v hv=>by rw [(h5.2 4 v _ hv rfl).unem];exact .d (.nil _ _ _))
theorem b77 {ts:List Tok} (hE:o5 ts) (hl:ts.length≤1048576) {rd:PE→Ty×PE} {L:Int} (hL1:0≤L) (hL2:L≤1048576) (hr:a8g ts rd) (hw:∀q:PE,q.1<ts.length→TyS 140 ts (L+1) (A7 (cT (rd q).1)) q (rd q).2) (a:Nat) (hp:a<ts.length) :
  TyS 171 ts L (.d (.sc (.string (E6 rd ts (a,0)).1.1))::A7 (cT (E6 rd ts (a,0)).1.2)) (a,0) (E6 rd ts (a,0)).2:=by
 have hpk:=a4i ts _ a (P4 hp) hl
 unfold rdB tkD at hpk
 unfold E6
 by_cases hk:(j6 ts a).kind=1
 ·rw [d2T (fun h=>h hk)]
  have h1:=hE _ hp (by rw [hk];decide)
  have hq:=b2D ts _ a (P4 hp) hl
  unfold rdB tkD at hq
  rw [hk] at hpk hq
  have hn:=b0a ts hl a2G (a+1,0) h1
  obtain ⟨w1,w2,w3⟩:=j8 (s:=a2G) (p:=(a+1,0)) hE h1
  have hwh:=hw _ w1
  exact b6d hL1 hL2 hpk hq hn hwh
 ·rw [d2S hk]
  have hf:=c1Z ts hl 5 (by decide) (a,0) hp
  have h1:=b6c (L:=L) hk hpk hf
  unfold TyS TyN
  rw [a71]
  exact v8.reread h1 fun res os2 ⟨e1,e2⟩=>⟨_,⟨rfl,e2⟩,fun I w g us hv=>d1u (e1 ▸ hv)⟩
theorem c7g {ts:List Tok} (hE:o5 ts) (hl:ts.length≤65537) {rd:PE→Ty×PE} {L:Int} (hL1:0≤L) (hL2:L≤1048576) (hr:a8g ts rd) (hw:∀q:PE,q.1<ts.length→TyS 140 ts (L+1) (A7 (cT (rd q).1)) q (rd q).2)
  (hrow:∀a:Nat,a<ts.length→TyS 163 ts L (A7 (cT (a2x rd ts (a,0)).1)) (a,0) (a2x rd ts (a,0)).2) (p:PE) (hp:p.1<ts.length) :
  TyS 150 ts L (A7 (cT (Q8 rd ts p).1)) p (Q8 rd ts p).2:=by
 have hl2:ts.length≤1048576:=by omega
 unfold Q8
 by_cases h1:A2 ts T4 p=true
 ·rw [d2S h1];exact c1T (a0D hl2 hp h1)
 rw [d2T h1]
 have n1:=a1U hl2 hp h1
 by_cases h2:A2 ts G7 p=true
 ·rw [d2S h2];exact b8Z n1 (a0D hl2 hp h2)
 rw [d2T h2]
 have n2:=a1U hl2 hp h2
 by_cases h3:A2 ts J7 p=true
 ·rw [d2S h3];exact c1U n1 n2 (a0D hl2 hp h3)
 rw [d2T h3]
 have n3:=a1U hl2 hp h3
 by_cases h4:A2 ts U5 p=true
 ·rw [d2S h4]
  have s2:=(I8 hE hp h4).2
  exact b9a hL1 hL2 n1 n2 n3 (a0D hl2 hp h4) (hw (p.1+1,0) s2) (b0a ts hl2 a5k _ (hr (p.1+1,0) s2).1.hi)
 rw [d2T h4]
 have n4:=a1U hl2 hp h4
 have hbig:∀a:Nat,a<ts.length→(a2x rd ts (a,0)).1.parts.length≤1048576∧(a2x rd ts (a,0)).2.1<ts.length:=fun a ha=>by
  obtain ⟨f1,f2,f3,f4,f5⟩:=b2X hE hr (a,0) ha
  exact ⟨by omega,f2⟩
 by_cases h5:A2 ts a5E p=true
 ·rw [d2S h5]
  have s2:=(I8 hE hp h5).2
  exact c1V (hbig _ s2).1 n1 n2 n3 n4 (a0D hl2 hp h5) (hrow (p.1+1) s2) (b0a ts hl2 a63 _ (hbig _ s2).2)
 rw [d2T h5]
 have n5:=a1U hl2 hp h5
 by_cases h6:A2 ts a3h p=true
 ·rw [d2S h6]
  have s2:=(I8 hE hp h6).2
  exact c1W (hbig _ s2).1 n1 n2 n3 n4 n5 (a0D hl2 hp h6) (hrow (p.1+1) s2) (b0a ts hl2 a64 _ (hbig _ s2).2)
 rw [d2T h6]
 exact b9b n1 n2 n3 n4 n5 (a1U hl2 hp h6) (c1Z ts hl2 5 (by decide) p hp)
def b0b (T:List (List D)) (y:List D) (ef qf af:Int) (e q a:Int) (R:List (List D)):Prop :=
 (SkN T a1T false e q a ef qf af∧o9 139 [.one (.sl 5 R),.ag (lf0 8)] [.ag y]) ∨
 (∃e1 q1 a1,SkN T a1T true e q a e1 q1 a1∧WaN T J7 e1 q1 a1 ef qf af∧o9 139 [.one (.sl 5 R),.ag (lf0 9)] [.ag y])
theorem c2a {T:List (List D)} {L e q a ef qf af:Int} {y0 y1 y2 y3:D} {s0:ByteArray} {k n0 p0:Int} (hk:k≠1) (hp:B0 21 [.ptr 0 0] [.box [.d (.sl 4 T),.d (.sc (.int .i64 a))]] (fun res os=>res=[.ag [.d (.sc (.int .u8 k)),.d (.sc (.string s0)),.d (.sc (.int .i64 n0)),.d (.sc (.int .i64 p0))]]∧os=[.box [.d (.sl 4 T),.d (.sc (.int .i64 a))]]))
  (hend:b0b T [y0,y1,y2,y3] ef qf af e q a []):TyN 163 T L [.d y0,.d y1,.d y2,.d y3] e q a ef qf af:=by
 unfold b0b at hend
 refine Z5 Tryz.func163 rfl ?_;intro _ _ _ _ _ _ _ _ _ qk _ _ _ _ _ _ _ _ _ _ _ _ _ _ _ _ _ _ _ _ _ _ _ _ _ _ _ _ _ _ _ vw;intros;rename_i hA
 obtain ⟨ee1,ee2,e3,e4,e5,e6,e7,e8,e9⟩:=j7 hA
 have g1:qk k 1=false:=by rw [e9];exact d2U hk
 cbv
 with_reducible apply f8 hA
 cbv
 refine a2j hA 5 164 true rfl ?_
 cbv
 rcases hend with ⟨hb,hj⟩|⟨e1,q1,a1,hb,hn,hj⟩
 ·unfold lf0 at hj
  have q0:=g1;have h0:=hj;have r0:=hp;have p0:=hb;exact I5
 ·unfold lf0 at hj
  have q0:=g1;have h0:=hj;have r0:=hp;have p0:=hb;have p1:=hn;exact I5
theorem c2b {T:List (List D)} {L e q a ef qf af:Int} {y0 y1 y2 y3:D} {s0:ByteArray} {n0 p0:Int} (hp:B0 21 [.ptr 0 0] [.box [.d (.sl 4 T),.d (.sc (.int .i64 a))]] (fun res os=>res=[.ag [.d (.sc (.int .u8 1)),.d (.sc (.string s0)),.d (.sc (.int .i64 n0)),.d (.sc (.int .i64 p0))]]∧os=[.box [.d (.sl 4 T),.d (.sc (.int .i64 a))]]))
  {f0 f1 f2 f3 f4:D} {es qs as0:Int} {m0:Nat} (inv:Int→Int→Int→List (List D)→Nat→Prop)
  (hf:TyN 171 T L [.d f0,.d f1,.d f2,.d f3,.d f4] e q a es qs as0) (h0:inv es qs as0 [[f0,f1,f2,f3,f4]] m0)
  (hst:∀(e q a:Int) (R:List (List D)) (m:Nat),inv e q a R m→R.length<1048576∧((∃(e1 q1 a1:Int) (c0 c1 c2 c3 c4:D) (e2 q2 a2:Int) (m2:Nat),SkN T a1F true e q a e1 q1 a1∧TyN 171 T L [.d c0,.d c1,.d c2,.d c3,.d c4] e1 q1 a1 e2 q2 a2∧inv e2 q2 a2 (R++[[c0,c1,c2,c3,c4]]) m2∧m2<m)
   ∨ (SkN T a1F false e q a e q a∧b0b T [y0,y1,y2,y3] ef qf af e q a R))):TyN 163 T L [.d y0,.d y1,.d y2,.d y3] e q a ef qf af:=by
 refine Z5 Tryz.func163 rfl ?_;intro _ _ _ _ _ _ _ _ _ qk _ _ _ _ _ _ _ _ _ _ _ _ _ _ _ ve _ _ _ _ _ _ _ _ _ _ _ _ _ _ _ vw;intros;rename_i hA
 obtain ⟨ee1,ee2,e3,e4,e5,e6,e7,e8,e9⟩:=j7 hA
 obtain ⟨r1,r2,r3,r4⟩:=A8 hA
 have g1:qk 1 1=true:=by rw [e9];rfl
 have g2:ve [] [[f0,f1,f2,f3,f4]]=[[f0,f1,f2,f3,f4]]:=by rw [r4];rfl
 cbv
 with_reducible apply f8 hA
 cbv
 refine a2j hA 5 164 true rfl ?_
 cbv
 iterate 2 (try cbv;repeat ((first|with_reducible apply f8 hA|rw [g1]|rw [g2]|refine rdx hA [1] hp ?_|refine A4 hA [0,1] hf ?_|refine A6 hA true ?_|refine B3 hA (by simp) ?_);cbv))
 try simp (maxSteps:=4000000) only [nc] at *
 refine j9 hA (γ:=(Int×Int×Int)×List (List D)×Nat) (fun x=>[(5,.own 3),(19,.jk)]) (fun x=>[(0,.box [.ptr 1 0,.d (.sc (.int .u8 x.1.1)),.d (.sc (.int .i64 x.1.2.1))]),(1,.box [.d (.sl 4 T),.d (.sc (.int .i64 x.1.2.2))]),(3,.row true 164 x.2.1)]) (fun x=>inv x.1.1 x.1.2.1 x.1.2.2 x.2.1 x.2.2) (fun x=>x.2.2) ((es,qs,as0),[[f0,f1,f2,f3,f4]],m0) ?_ ?_ ?_
 ·exact h0
 ·cbv
 ·intro x hinv
  obtain ⟨⟨e,q,a⟩,R,m⟩:=x
  obtain ⟨hlen,hs⟩:=hst e q a R m hinv
  rcases hs with ⟨e1,q1,a1,c0,c1,c2,c3,c4,e2,q2,a2,m2,hc,hf2,hi2,hm2⟩|⟨hc,hend⟩
  ·have g3:ve R [[c0,c1,c2,c3,c4]]=R++[[c0,c1,c2,c3,c4]]:=by rw [r4]
   obtain ⟨R2,hR2⟩:∃R2,R2=R++[[c0,c1,c2,c3,c4]]:=⟨_,rfl⟩
   rw [←hR2] at g3 hi2
   iterate 2 (try cbv;repeat ((first|with_reducible apply f8 hA|rw [g3]|refine A4 hA [0,1] hc ?_|refine A4 hA [0,1] hf2 ?_|refine A6 hA true ?_|(refine B3 hA (by simp only [d2X,d3g];omega) ?_));cbv))
   try simp (maxSteps:=4000000) only [nc] at *
   refine ⟨((e2,q2,a2),R2,m2),hi2,hm2,?_⟩
   cbv
  ·unfold b0b at hend
   rcases hend with ⟨hb,hj⟩|⟨e1,q1,a1,hb,hn,hj⟩
   ·unfold lf0 at hj
    have h0:=hj;have p0:=hc;have p1:=hb;exact I5
   ·unfold lf0 at hj
    have h0:=hj;have p0:=hc;have p1:=hb;have p2:=hn;exact I5
theorem b1D (l:List (ByteArray×Ty)) (op:Int) (hn:l.length≤1048576) (hf:∀f∈l,f.2.parts.length≤1048576):o9 139 [.one (.sl 5 (rF l)),.ag (lf0 op)] [.ag (cT (a0y l (lfT op)))]:=by
 have h:=c7f l (lfT op) hn (by rw [a2q];omega) hf
 rw [show cT (lfT op)=[.sc (.int .u8 op),.sc (.string F8),.sc (.int .i64 0),.sl 4 []] by rw [cT,rT]] at h
 exact h.like ⟨.same _,a2p op,trivial⟩
theorem c2c {ts:List Tok} (hE:o5 ts) (hl:ts.length≤65537) (l:List (ByteArray×Ty)) (q:PE) (hq:q.1<ts.length) (hn:A5 l≤1048576) :
  b0b (C9 ts) (cT (tlW ts l q).1) (tlW ts l q).2.2 (cQ ts (tlW ts l q).2) ((tlW ts l q).2.1:Int) q.2 (cQ ts q) (q.1:Int) (rF l):=by
 have hl2:ts.length≤1048576:=by omega
 have hfl:=a83 l
 have hlen:l.length≤1048576:=by omega
 have hfs:∀f∈l,f.2.parts.length≤1048576:=fun f hf=>by have:=hfl.2 f hf;omega
 unfold tlW
 by_cases hb:A2 ts a1T q=true
 ·rw [d2S hb]
  have s2:=(I8 hE hq hb).2
  exact .inr ⟨_,_,_,a0D hl2 hq hb,b0a ts hl2 J7 (q.1+1,0) s2,b1D l 9 hlen hfs⟩
 ·rw [d2T hb]
  exact .inl ⟨a1U hl2 hq hb,b1D l 8 hlen hfs⟩
theorem c9x {ts:List Tok} (hE:o5 ts) (hl:ts.length≤65537) {rd:PE→Ty×PE} {L:Int} (hL1:0≤L) (hL2:L≤1048576) (hr:a8g ts rd) (hw:∀q:PE,q.1<ts.length→TyS 140 ts (L+1) (A7 (cT (rd q).1)) q (rd q).2) (a:Nat) (hp:a<ts.length) :
  TyS 163 ts L (A7 (cT (a2x rd ts (a,0)).1)) (a,0) (a2x rd ts (a,0)).2:=by
 have hl2:ts.length≤1048576:=by omega
 have hpk:=a4i ts _ a (P4 hp) hl2
 unfold rdB tkD at hpk
 obtain ⟨y0,y1,y2,y3,hy⟩:=l8 (a2x rd ts (a,0)).1
 have hh:=a4u hE hr (a,0) hp
 have hend:=c2c hE hl (M4 rd ts (a,0)).1 (M4 rd ts (a,0)).2 hh.hi (by have:=hh.sz;have:=hh.hi;omega)
 by_cases hk:(j6 ts a).kind=1
 ·rw [hk] at hpk
  have hff:=a2a hE hr (a,0) hp
  have hf:=b77 hE hl2 hL1 hL2 hr hw a hp
  have hhd:M4 rd ts (a,0)=M3 rd ts ts.length (E6 rd ts (a,0)).2 [(E6 rd ts (a,0)).1]:=by unfold M4;rw [d2S hk]
  obtain ⟨f1,f2,f3,f4,hc⟩:=l8 (E6 rd ts (a,0)).1.2
  rw [hc] at hf
  generalize hF:E6 rd ts (a,0)=F at *
  have e1:A5 [F.1]=1+F.1.2.parts.length:=rfl
  have hfl:FitL ts (a,0) ([F.1],F.2):=⟨hff.lo,hff.hi,by have:=hff.sw hk;show A5 [F.1]+a≤F.2.1+1;rw [e1];simp only at this;omega,fun h=>⟨rfl,by have:=(hff.ok h).2;show A5 [F.1]+a≤F.2.1;rw [e1];simp only at this;omega⟩,fun x hx=>by cases d33.1 hx;exact hff.sp⟩
  generalize hH:M4 rd ts (a,0)=H at *
  unfold a2x at hy ⊢
  rw [hH] at hy ⊢
  rw [hy] at hend ⊢
  refine c2b (m0:=ts.length) hpk (fun e q z R m=>∃(p:PE) (l:List (ByteArray×Ty)),e=p.2∧q=cQ ts p∧z=(p.1:Int)∧R=rF l∧FitL ts (a,0) (l,p)∧ts.length - p.1≤m∧M3 rd ts m p l=H) hf ⟨F.2,[F.1],rfl,rfl,rfl,by unfold rF;rw [d3c,hc];rfl,hfl,Nat.sub_le ..,hhd.symm⟩ ?_
  rintro e q z R m ⟨p,l,rfl,rfl,rfl,rfl,hfit,hm,hfin⟩
  have hpi:=hfit.hi
  have hsz:=hfit.sz
  simp only at hpi hsz
  have hll:=(a83 l).1
  refine ⟨by rw [a1G];omega,?_⟩
  match m,hm,hfin with
  | 0,hm,hfin=>omega
  | m+1,hm,hfin =>
   rw [M3] at hfin
   by_cases hb:A2 ts a1F p=true
   ·rw [d2S hb] at hfin
    obtain ⟨s1,s2⟩:=I8 hE hpi hb
    have hf2:=b77 hE hl2 hL1 hL2 hr hw (p.1+1) s2
    have hfg:=a5N hE hr (a,0) 1 p l hfit
    have hff2:=a2a hE hr (p.1+1,0) s2
    rw [M3,d2S hb,M3] at hfg
    obtain ⟨c1,c2,c3,c4,hc2⟩:=l8 (E6 rd ts (p.1+1,0)).1.2
    rw [hc2] at hf2
    generalize E6 rd ts (p.1+1,0)=G at *
    exact .inl ⟨_,_,_,_,_,_,_,_,_,_,_,m,a0D hl2 hpi hb,hf2,⟨G.2,l++[G.1],rfl,rfl,rfl,by rw [b2O,hc2],hfg,by have:=hff2.lo;simp only at this;omega,hfin⟩,Nat.lt_succ_self m⟩
   ·rw [d2T hb] at hfin
    subst hfin
    exact .inr ⟨a1U hl2 hpi hb,hend⟩
 ·have hhd:M4 rd ts (a,0)=([],(a,0)):=by unfold M4;rw [d2T hk]
  unfold a2x at hy ⊢
  rw [hhd] at hend hy ⊢
  rw [hy] at hend ⊢
  exact c2a hk hpk hend
def T6 (n:Nat) (L:Int):Prop:=(n=0∧200<L)∨(1≤n∧n≤201∧L=201 - (n:Int))
theorem b78 {ts:List Tok} (hE:o5 ts) (hl:ts.length≤65537):∀(n:Nat) (L:Int),T6 n L→∀p:PE,p.1<ts.length→TyS 140 ts L (A7 (cT (n9 ts n p).1)) p (n9 ts n p).2
 | n,L,hv,p,hp=>by
  have hl2:ts.length≤1048576:=by omega
  by_cases h0:p.2=0
  ·rcases hv with ⟨rfl,hL⟩|⟨h1,h2,hL⟩
   ·have h:=b6a ts _ p.1 (P4 hp) hl2 L hL
    unfold eyB at h
    rw [n9]
    unfold E7
    rw [d2T (fun h=>h h0)]
    unfold TyS
    rw [h0,c1X ts h0]
    exact h
   ·obtain ⟨n,rfl⟩:∃k,n=k+1:=⟨n - 1,by omega⟩
    have hv2:T6 n (L+1):=by
     unfold T6
     by_cases hn:n=0
     ·exact .inl ⟨hn,by omega⟩
     ·exact .inr ⟨by omega,by omega,by omega⟩
    have ih:=b78 hE hl n (L+1) hv2
    have hr:=P7 hE n
    have ha:=c7g hE hl (by omega) (by omega) hr ih (c9x hE hl (by omega) (by omega) hr ih) p hp
    have hfa:=a6C hE hr p hp
    rw [n9,d2T (fun h=>h h0)]
    unfold TyS at ha ⊢
    rw [h0] at ha ⊢
    by_cases hb:A2 ts gTo (Q8 (n9 ts n) ts p).2=true
    ·rw [d2S hb]
     have s2:=(I8 hE hfa.hi hb).2
     have hfu:=(hr ((Q8 (n9 ts n) ts p).2.1+1,0) s2).1
     exact b9c (by have:=hfa.sz;have:=hfa.hi;omega) (by have:=hfu.sz;have:=hfu.hi;omega) (by omega) (by omega) ha (a0D hl2 hfa.hi hb) (ih _ s2)
    ·rw [d2T hb]
     exact b6b (by omega) ha (a1U hl2 hfa.hi hb)
  ·have h:=b8V (C9 ts) p.2 (cQ ts p) (p.1:Int) L h0
   unfold eyB at h
   have e:n9 ts n p=(r7,p):=by
    cases n with
    | zero=>rw [n9];unfold E7;rw [d2S h0]
    | succ n=>rw [n9,d2S h0]
   rw [e]
   exact h
theorem b79:∀(l:List UInt8) (f:Bool),(∀(i:Nat) (c:UInt8),l[i]?=some c→okB (f && (i == 0)) (c.toNat:Int)=true)→okL f l=true
 | [],f,h=>rfl
 | c::l,f,h=>by
  rw [okL,b79 l false fun i x hx=>by
   have:=h (i+1) x (by simpa using hx)
   simpa using this]
  have:=h 0 c rfl
  simp at this
  rw [this]
  rfl
theorem c9y (s:ByteArray) (i:Nat) (c:UInt8) (h:(btl s)[i]?=some c):gb (l7 s) i=(c.toNat:Int):=by
 unfold btl at h
 unfold gb l7
 rw [d3k,d3u,h]
 rfl
theorem c41 (s:ByteArray) (h1:a5B s=false) (h2:a1S (l7 s)=true) (h3:(l7 s).length≤32):E3 s=true:=by
 rw [G6] at h3
 unfold a1S at h2
 rw [d2Z,decide_eq_true_iff,d3z,G6] at h2
 obtain ⟨h4,h5⟩:=h2
 unfold E3 a0A
 rw [h1,d3a h3,d3a h4,b79 _ _ fun i c hc=>by
  have hi:i<s.size:=by
   have:=(d2Q.1 hc).1
   unfold btl at this
   rwa [d4l] at this
  have h6:=h5 i (d4Z.2 hi)
  unfold c1m at h6
  rw [c9y s i c hc] at h6
  unfold okB
  by_cases hz:i=0
  ·subst hz
   simpa using h6
  ·rw [d3a (by omega:0<i)] at h6
   rw [show (i == 0)=false from d2Y hz]
   simpa using h6]
 rfl
def b9d (t:Tok):Prop:=t.kind≠4∧(t.kind=1→E3 t.text=true)
theorem c2d (s:ByteArray) (a:Int) (h:(a0k s a).2=0):b9d (a0k s a).1:=by
 unfold a0k at h ⊢
 by_cases h1:E9 (gb (l7 s) 0)=true
 ·rw [d2S h1] at h ⊢
  exact ⟨show (2:Int)≠4 by decide,fun h=>absurd (show (2:Int)=1 from h) (by decide)⟩
 rw [d2T h1] at h ⊢
 by_cases h2:a5B s=true
 ·rw [d2S h2] at h ⊢
  exact ⟨show (3:Int)≠4 by decide,fun h=>absurd (show (3:Int)=1 from h) (by decide)⟩
 rw [d2T h2] at h ⊢
 by_cases h3:a1S (l7 s)=false
 ·rw [d2S h3] at h
  exact absurd (show (4:Int)=0 from h) (by decide)
 rw [d2T h3] at h ⊢
 by_cases h4:32<(l7 s).length
 ·rw [d2S h4] at h
  exact absurd (show (7:Int)=0 from h) (by decide)
 rw [d2T h4]
 exact ⟨show (1:Int)≠4 by decide,fun _=>c41 s (d5c.2 h2) (by simpa using h3) (by omega)⟩
def c2e (l:List Int) (r:List Tok×Int×Int) (n:Nat):Prop:=r.2.2=0→∃pre,r.1=pre++[⟨4,⟨#[]⟩,0,(l.length:Int)⟩]∧(∀t∈pre,b9d t)∧pre.length≤n
theorem b7A (l:List Int):∀(m a:Nat) (rem:Bool) (out:List Tok) (n:Nat),l.length - a≤m→(∀t∈out,b9d t)→out.length+(l.length - a)≤n→c2e l (o7 l a rem out) n
 | m,a,rem,out,n,hm,ho,hn=>by
  rw [a1n]
  unfold body
  by_cases ha:a<l.length
  ·rw [d2S ha]
   have go:∀(a':Nat) (rem:Bool) (out':List Tok),a<a'→(∀t∈out',b9d t)→out'.length≤out.length+1→c2e l (o7 l a' rem out') n:=fun a' rem' out' h1 h2 h3=>by
    match m,hm with
    | 0,hm=>omega
    | m+1,hm=>exact b7A l m a' rem' out' n (by omega) h2 (by omega)
   have bad:∀(p c:Int),c≠0→c2e l ([],p,c) n:=fun p c hc h=>absurd h hc
   have snoc:∀t,b9d t→∀x∈out++[t],b9d x:=fun t ht x hx=>by
    rcases d38.1 hx with hx|hx
    ·exact ho x hx
    ·cases d33.1 hx;exact ht
   by_cases h0:nx l a=0
   ·rw [d2S h0];exact bad _ _ (by decide)
   rw [d2T h0]
   by_cases h1:rem=true
   ·rw [d2S h1];exact go _ _ _ (by omega) ho (by omega)
   rw [d2T h1]
   by_cases h2:L6 (gb l a)=true
   ·rw [d2S h2];exact go _ _ _ (by omega) ho (by omega)
   rw [d2T h2]
   by_cases h3:gb l a=35
   ·rw [d2S h3];exact go _ _ _ (by omega) ho (by omega)
   rw [d2T h3]
   by_cases h4:I6 (gb l a)=true
   ·rw [d2S h4]
    by_cases h5:(a0k (strOfNums (J2 l a)) a).2=0
    ·rw [d2S h5]
     have:=b29 ha h4
     exact go _ _ _ (by omega) (snoc _ (c2d _ _ h5)) (by simp)
    ·rw [d2T h5];exact bad _ _ h5
   rw [d2T h4]
   by_cases h6:E2 (l.drop a)=0
   ·rw [d2S h6];exact bad _ _ (by decide)
   rw [d2T h6]
   exact go _ _ _ (by omega) (snoc _ ⟨show (3:Int)≠4 by decide,fun h=>absurd (show (3:Int)=1 from h) (by decide)⟩) (by simp)
  ·rw [d2T ha]
   exact fun _=>⟨out,rfl,ho,by omega⟩
def a0n (ts:List Tok):Prop:=∀a,a<ts.length→(j6 ts a).kind=1→E3 (j6 ts a).text=true
theorem c42 (l:List Int) (h:(o7 l 0 false []).2.2=0):o5 (o7 l 0 false []).1∧a0n (o7 l 0 false []).1∧0<(o7 l 0 false []).1.length∧(o7 l 0 false []).1.length≤l.length+1:=by
 obtain ⟨pre,h1,h2,h3⟩:=b7A l l.length 0 false [] l.length (by omega) (fun t ht=>by cases ht) (by simp) h
 rw [h1]
 have hin:∀a,a<(pre++[(⟨4,⟨#[]⟩,0,(l.length:Int)⟩:Tok)]).length→(j6 (pre++[⟨4,⟨#[]⟩,0,(l.length:Int)⟩]) a)∈pre∧a<pre.length∨(j6 (pre++[⟨4,⟨#[]⟩,0,(l.length:Int)⟩]) a).kind=4:=fun a ha=>by
  rw [d2R,d4e] at ha
  unfold j6
  by_cases hp:a<pre.length
  ·left
   rw [d3n hp,d2P hp]
   exact ⟨d5f hp,hp⟩
  ·right
   have:a=pre.length:=by omega
   subst this
   rw [d3h (d3b _),d4k]
   rfl
 refine ⟨fun a ha hk=>?_,fun a ha hk=>?_,by simp,by simp;omega⟩
 ·rcases hin a ha with ⟨_,hp⟩|h4
  ·simp;omega
  ·exact absurd h4 hk
 ·rcases hin a ha with ⟨hm,_⟩|h4
  ·exact (h2 _ hm).2 hk
  ·rw [h4] at hk;exact absurd hk (by decide)
def NoV (t:Ty):Prop:=∀x∈t.parts,x.op≠7∧x.op≠10
def Rt (t:Ty) (s:Int):Prop:=I9 E3 t s=true∧NoV t
theorem c44:F8.toList=[]:=by rw [ByteArray.toList_eq]
theorem NoV.mk {op:Int} {nm:ByteArray} {n:Int} {ks:List Ty} (h:op≠7∧op≠10) (hk:∀k∈ks,NoV k):NoV (.mk op nm n ks):=fun x hx=>by
 rw [C4] at hx
 rcases d3d.1 hx with rfl|hx
 ·exact h
 ·obtain ⟨k,hkm,hxk⟩:=d3K.1 hx
  exact hk k hkm x hxk
theorem c2f (op:Int) (h:op≠11):c3B E3 op F8=true:=by unfold c3B;rw [d2T h];exact d3a c44
theorem a6D (op s:Int) (h:op=1∧s=116∨op=2∧s=116∨op=3∧s=116∨op=8∧s=114∨op=9∧s=114):Rt (lfT op) s:=by
 refine ⟨?_,NoV.mk (by omega) fun k hk=>by cases hk⟩
 have hk:Z6 op=some []:=by unfold Z6;rw [d2S (by omega)]
 rw [a0X hk,c2f op (by omega)]
 rcases h with ⟨rfl,rfl⟩|⟨rfl,rfl⟩|⟨rfl,rfl⟩|⟨rfl,rfl⟩|⟨rfl,rfl⟩ <;> rfl
theorem c7h {t u:Ty} (ht:Rt t 116) (hu:Rt u 116):Rt (.mk 4 F8 0 [t,u]) 116:=by
 refine ⟨?_,NoV.mk (by decide) fun k hk=>by
  rcases d3d.1 hk with rfl|hk
  ·exact ht.2
  ·cases d33.1 hk;exact hu.2⟩
 rw [a0X (k:=[116,116]) rfl,c2f 4 (by decide),J0,J0,ht.1,hu.1]
 rfl
theorem c2g {t:Ty} (op:Int) (h:op=5∨op=6) (ht:Rt t 114):Rt (.mk op F8 0 [t]) 116:=by
 refine ⟨?_,NoV.mk (by omega) fun k hk=>by cases d33.1 hk;exact ht.2⟩
 have hk:Z6 op=some [114]:=by rcases h with rfl|rfl <;> rfl
 rw [a0X hk,c2f op (by omega),J0,ht.1]
 rcases h with rfl|rfl <;> rfl
theorem b2Y {tl:Ty} (htl:Rt tl 114):∀ {l:List (ByteArray×Ty)},(∀f∈l,E3 f.1=true∧Rt f.2 116)→Rt (a0y l tl) 114
 | [],_=>htl
 | f::l,h=>by
  have h1:=h f (d2V ..)
  have h2:=b2Y htl (l:=l) fun g hg=>h g (d2W _ hg)
  rw [a5K]
  refine ⟨?_,NoV.mk (by decide) fun k hk=>by
   rcases d3d.1 hk with rfl|hk
   ·exact h1.2.2
   ·cases d33.1 hk;exact h2.2⟩
  rw [a0X (k:=[116,114]) rfl,J0,J0,h1.2.1,h2.1]
  unfold c3B
  rw [d2S rfl,h1.1]
  rfl
theorem c2h {t:Ty} (h:NoV t):a7O t=true:=by
 unfold a7O
 rw [d3z]
 intro x hx
 rw [d3z]
 intro y hy
 unfold a7w
 rw [d2Y (h x hx).1]
 rfl
theorem Rt.right {t:Ty} {s:Int} (h:Rt t s):N0 t s=true:=by unfold N0;rw [h.1,c2h h.2];rfl
theorem Rt.either {t:Ty} (h:Rt t 116):a1p t=true:=by unfold a1p;rw [h.right];rfl
def RtR (ts:List Tok) (rd:PE→Ty×PE):Prop:=∀p:PE,p.1<ts.length→(rd p).2.2=0→Rt (rd p).1 116
theorem b6e {ts:List Tok} {s:ByteArray} {p:PE} (h:(j0 ts s p).2=0):p.2=0:=by
 unfold j0 at h
 by_cases h0:p.2≠0
 ·rw [d2S h0] at h;exact h
 ·exact d4E.1 h0
theorem b49 {ts:List Tok} {rd:PE→Ty×PE} (hE:o5 ts) (hN:a0n ts) (hr:RtR ts rd) (p:PE) (hp:p.1<ts.length) (h:(E6 rd ts p).2.2=0):E3 (E6 rd ts p).1.1=true∧Rt (E6 rd ts p).1.2 116:=by
 unfold E6 at h ⊢
 by_cases hk:(j6 ts p.1).kind≠1
 ·rw [d2S hk] at h
  exact absurd h (G2 5 (by decide) p).2
 ·rw [d2T hk] at h ⊢
  replace hk:=d4E.1 hk
  exact ⟨hN _ hp hk,hr _ (j8 hE (hE _ hp (by rw [hk];decide))).1 h⟩
theorem b1E {ts:List Tok} {rd:PE→Ty×PE} (hE:o5 ts) (hN:a0n ts) (hf:a8g ts rd) (hr:RtR ts rd):∀(k:Nat) (p:PE) (l:List (ByteArray×Ty)),p.1<ts.length→(p.2=0→∀f∈l,E3 f.1=true∧Rt f.2 116)→(M3 rd ts k p l).2.2=0→∀f∈(M3 rd ts k p l).1,E3 f.1=true∧Rt f.2 116
 | 0,p,l,_,h,h0=>h h0
 | k+1,p,l,hp,h,h0=>by
  rw [M3] at h0 ⊢
  by_cases hs:A2 ts a1F p=true
  ·rw [d2S hs] at h0 ⊢
   obtain ⟨s1,s2⟩:=I8 hE hp hs
   refine b1E hE hN hf hr k _ _ (a2a hE hf (p.1+1,0) s2).hi (fun h1 f hm=>?_) h0
   rcases d38.1 hm with hm|hm
   ·exact h s1 f hm
   ·cases d33.1 hm;exact b49 hE hN hr (p.1+1,0) s2 h1
  ·rw [d2T hs] at h0 ⊢;exact h h0
theorem b7B {ts:List Tok} {rd:PE→Ty×PE} (hE:o5 ts) (hN:a0n ts) (hf:a8g ts rd) (hr:RtR ts rd) (p:PE) (hp:p.1<ts.length) (h:(a2x rd ts p).2.2=0):Rt (a2x rd ts p).1 114:=by
 have hh:(M4 rd ts p).2.2=0→∀f∈(M4 rd ts p).1,E3 f.1=true∧Rt f.2 116:=by
  unfold M4
  by_cases hk:(j6 ts p.1).kind=1
  ·rw [d2S hk]
   intro h0
   exact b1E hE hN hf hr _ _ _ (a2a hE hf p hp).hi (fun h1 f hm=>by cases d33.1 hm;exact b49 hE hN hr p hp h1) h0
  ·rw [d2T hk]
   intro _ f hm
   cases hm
 unfold a2x tlW at h ⊢
 by_cases hs:A2 ts a1T (M4 rd ts p).2=true
 ·rw [d2S hs] at h ⊢
  exact b2Y (a6D 9 114 (by omega)) (hh (I8 hE (a4u hE hf p hp).hi hs).1)
 ·rw [d2T hs] at h ⊢
  exact b2Y (a6D 8 114 (by omega)) (hh h)
theorem b7C {ts:List Tok} {rd:PE→Ty×PE} (hE:o5 ts) (hN:a0n ts) (hf:a8g ts rd) (hr:RtR ts rd) (p:PE) (hp:p.1<ts.length) (h:(Q8 rd ts p).2.2=0):Rt (Q8 rd ts p).1 116:=by
 unfold Q8 at h ⊢
 by_cases h1:A2 ts T4 p=true
 ·rw [d2S h1];exact a6D 1 116 (by omega)
 rw [d2T h1] at h ⊢
 by_cases h2:A2 ts G7 p=true
 ·rw [d2S h2];exact a6D 2 116 (by omega)
 rw [d2T h2] at h ⊢
 by_cases h3:A2 ts J7 p=true
 ·rw [d2S h3];exact a6D 3 116 (by omega)
 rw [d2T h3] at h ⊢
 by_cases h4:A2 ts U5 p=true
 ·rw [d2S h4] at h ⊢
  exact hr (p.1+1,0) (I8 hE hp h4).2 (b6e h)
 rw [d2T h4] at h ⊢
 by_cases h5:A2 ts a5E p=true
 ·rw [d2S h5] at h ⊢
  exact c2g 5 (by omega) (b7B hE hN hf hr (p.1+1,0) (I8 hE hp h5).2 (b6e h))
 rw [d2T h5] at h ⊢
 by_cases h6:A2 ts a3h p=true
 ·rw [d2S h6] at h ⊢
  exact c2g 6 (by omega) (b7B hE hN hf hr (p.1+1,0) (I8 hE hp h6).2 (b6e h))
 rw [d2T h6] at h
 exact absurd h (G2 5 (by decide) p).2
theorem b4A {ts:List Tok} (hE:o5 ts) (hN:a0n ts):∀n:Nat,RtR ts (n9 ts n)
 | 0,p,hp,h=>by
  rw [n9] at h
  exact absurd h (G2 6 (by decide) p).2
 | n+1,p,hp,h=>by
  have ih:=b4A hE hN n
  have hf:=P7 hE n
  rw [n9] at h ⊢
  by_cases h0:p.2≠0
  ·rw [d2S h0] at h
   exact absurd h h0
  rw [d2T h0] at h ⊢
  by_cases hs:A2 ts gTo (Q8 (n9 ts n) ts p).2=true
  ·rw [d2S hs] at h ⊢
   have hfa:=a6C hE hf p hp
   obtain ⟨s1,s2⟩:=I8 hE hfa.hi hs
   exact c7h (b7C hE hN hf ih p hp s1) (ih ((Q8 (n9 ts n) ts p).2.1+1,0) s2 h)
  ·rw [d2T hs] at h ⊢
   exact b7C hE hN hf ih p hp h
abbrev RdN (T:List (List D)) (L:Int) (x:List V) (a p c a1:Int):Prop:=v8 132 [.ptr 0 0,vi .i64 L] [.box [.d (.sl 4 T),.d (.sc (.int .i64 a))]] (fun res os=>res=[.ag x,.d (.sc (.int .i64 p)),.d (.sc (.int .u8 c))]∧os=[.box [.d (.sl 4 T),.d (.sc (.int .i64 a1))]])
theorem c90 {I:Nat→Nat→Prop} {w:World} {g:Nat→Value} {us:List Value} {a b c x y:V} {z:Nat} (h:m8 I w g us [.ag [a,b,c,.em],x,y]):m8 I w g us [.ag [a,b,c,.d (.sl z [])],x,y] :=
 h.reset (i:=0) fun v hv=>by
  have h4:=h.2 0 v _ hv rfl
  obtain ⟨ks,rfl,h5⟩:=h4.unag
  exact Y4 (h5.reset (i:=3) fun v hv=>by rw [(h5.2 3 v _ hv rfl).unem];exact .d (.nil _ _ _))
theorem c2i {T:List (List D)} {L a e q a1:Int} {t:Ty} (he:e≠0) (h1:TyN 140 T L (A7 (cT t)) 0 0 a e q a1):RdN T L (A7 (cT r7)) a q e a1:=by
 have h0:RdN T L [.d (.sc (.int .u8 0)),.d (.sc (.string F8)),.d (.sc (.int .i64 0)),.em] a q e a1:=by
  obtain ⟨c0,c1,c2,c3,hc⟩:=l8 t
  rw [hc] at h1
  refine Z5 Tryz.func132 rfl ?_;intro _ _ _ _ _ _ _ _ _ qk;intros;rename_i hA
  obtain ⟨ee1,ee2,e3,e4,e5,e6,e7,e8,e9⟩:=j7 hA
  have g1:qk e 0=false:=by rw [e9];exact d2U he
  iterate 2 (try cbv;repeat ((first|with_reducible apply f8 hA|rw [g1]|refine A4 hA [2,0] h1 ?_);cbv))
  try simp (maxSteps:=4000000) only [nc] at *
  exact m9 hA [0] ⟨rfl,rfl,rfl,rfl,rfl,rfl,rfl,rfl⟩ ⟨rfl,rfl⟩
 unfold RdN
 rw [a71]
 exact v8.reread h0 fun res os2 ⟨e1,e2⟩=>⟨_,⟨rfl,e2⟩,fun I w g us hv=>c90 (e1 ▸ hv)⟩
theorem c45 {T:List (List D)} {L a q a1:Int} {t:Ty} (ht:Sm t) (he:a1p t=true) (h1:TyN 140 T L (A7 (cT t)) 0 0 a 0 q a1):RdN T L (A7 (cT (y9 t))) a 0 0 a1:=by
 have hcn:=c4y t ht
 rw [d2S he] at hcn
 obtain ⟨c0,c1,c2,c3,hc⟩:=l8 t
 obtain ⟨d0,d1,d2,d3,hd⟩:=l8 (y9 t)
 rw [hc] at h1 hcn
 rw [hd] at hcn ⊢
 refine Z5 Tryz.func132 rfl ?_;intro _ _ _ _ _ _ _ _ _ qk;intros;rename_i hA
 obtain ⟨ee1,ee2,e3,e4,e5,e6,e7,e8,e9⟩:=j7 hA
 have g1:qk 0 0=true:=by rw [e9];rfl
 iterate 2 (try cbv;repeat ((first|with_reducible apply f8 hA|rw [g1]|refine f9 hA _ hcn rfl ?_|refine i7 hA _ hcn ?_|refine A4 hA [2,0] h1 ?_);cbv))
 try simp (maxSteps:=4000000) only [nc] at *
 exact m9 hA [0] ⟨rfl,rfl,rfl,rfl,rfl,rfl,rfl,rfl⟩ ⟨rfl,rfl⟩
def K5 (ts:List Tok) (n a:Nat):Ty×Int×Int×Nat :=
 if (n9 ts n (a,0)).2.2≠0 then (r7,(j6 ts (n9 ts n (a,0)).2.1).at_,(n9 ts n (a,0)).2.2,(n9 ts n (a,0)).2.1)
 else (y9 (n9 ts n (a,0)).1,0,0,(n9 ts n (a,0)).2.1)
theorem c7j {ts:List Tok} (hE:o5 ts) (hN:a0n ts) (hl:ts.length≤65537) (n:Nat) (L:Int) (hv:T6 n L) (a:Nat) (ha:a<ts.length) :
  RdN (C9 ts) L (A7 (cT (K5 ts n a).1)) (a:Int) (K5 ts n a).2.1 (K5 ts n a).2.2.1 ((K5 ts n a).2.2.2:Int):=by
 have h:=b78 hE hl n L hv (a,0) ha
 have hf:=(P7 hE n (a,0) ha).1
 have hrt:=b4A hE hN n (a,0) ha
 unfold K5
 generalize n9 ts n (a,0)=r at *
 by_cases h0:r.2.2≠0
 ·rw [d2S h0]
  have h2:=c2i h0 h
  rw [c9w ts h0] at h2
  exact h2
 ·rw [d2T h0]
  replace h0:=d4E.1 h0
  unfold TyS at h
  rw [h0] at h
  exact c45 (c9q (hrt h0).1 (by have:=hf.sz;have:=hf.hi;omega)) (hrt h0).either h
section
abbrev F7 (T:List (List D)) (s:ByteArray) (a:Int) (b:Bool):Prop:=o9 61 [.one (.sl 4 T),.one (.sc (.int .i64 a)),.one (.sc (.string s))] [.one (.sc (.bool b))]
abbrev RdZ (f:Nat) (T:List (List D)) (a L:Int) (x:List D) (n c:Int):Prop:=o9 f [.one (.sl 4 T),.one (.sc (.int .i64 a)),.one (.sc (.int .i64 L))] [.ag x,.one (.sc (.int .i64 n)),.one (.sc (.int .i64 c))]
abbrev FdZ (T:List (List D)) (a L:Int) (x:List (List D)) (n c:Int):Prop:=o9 134 [.one (.sl 4 T),.one (.sc (.int .i64 a)),.one (.sc (.int .i64 L))] [.one (.sl 5 x),.one (.sc (.int .i64 n)),.one (.sc (.int .i64 c))]
theorem b6f (ts:List Tok) (a:Nat) (ha:a<ts.length) (hl:ts.length≤1048576) (s:ByteArray):F7 (C9 ts) s (a:Int) (L7 (j6 ts a) s):=by
 have hg:=a80 (P4 ha)
 have hln:=a4N ts
 unfold L7
 unfold tkD at hg
 generalize j6 ts a=t at *
 generalize C9 ts=T at *
 generalize t.kind=tk at *
 generalize t.text=tx at *
 generalize t.n=tn at *
 generalize t.at_=ta at *
 obtain ⟨z,hz⟩:∃z,z=(a:Int):=⟨_,rfl⟩
 rw [←hz]
 obtain ⟨b,hb⟩:∃b,b=(tx.toList == s.toList):=⟨_,rfl⟩
 obtain ⟨c,hc⟩:∃c,c=(tk == 3):=⟨_,rfl⟩
 rw [←hb,←hc]
 refine N2 Tryz.func61 rfl ?_;intro _ _ _ _ _ _ _ qi _ qk _ qm _ qp _ _ _ _ _ _ _ _ va vc;intros;rename_i hA
 obtain ⟨e1,e2,e3,e4,e5,e6,e7,e8,e9⟩:=j7 hA
 obtain ⟨r1,r2,r3,r4⟩:=A8 hA
 obtain ⟨s1,s2,s3,s4,s5,s6,s7⟩:=G1 hA
 have q1:qi z (va T)=true:=by rw [e7,r1,hln,hz];exact d3a (by omega)
 have q2:qk tk 3=c:=by rw [e9,hc]
 have q3:qm (qp tx) (qp s)=b:=by rw [s1,s3,s3,hb]
 have g:vc T z=some [.sc (.int .u8 tk),.sc (.string tx),.sc (.int .i64 tn),.sc (.int .i64 ta)]:=by rw [r2,hz,d2S (by omega),show ((a:Int)).toNat=a by omega];exact hg
 cases c
 ·iterate 2 (try cbv;repeat ((first|with_reducible apply f8 hA|rw [q1]|rw [q2]|rw [g]);cbv))
 ·iterate 2 (try cbv;repeat ((first|with_reducible apply f8 hA|rw [q1]|rw [q2]|rw [q3]|rw [g]);cbv))
section
variable {T:List (List D)} {a L a1 L1 n n1 c:Int} {t u:Ty}
theorem c7k (hL:200<L):RdZ 109 T a L (lf0 0) a 6:=by
 unfold lf0
 refine N2 Tryz.func109 rfl ?_;intro _ _ _ _ _ _ _ qi;intros;rename_i hA
 obtain ⟨e1,e2,e3,e4,e5,e6,e7,e8,e9⟩:=j7 hA
 have g1:qi 200 L=true:=by rw [e7];exact d3a hL
 try cbv;exact fr
theorem c91 (hL:L≤200) (hc:c≠0) (h:RdZ 124 T a L (cT t) n c):RdZ 109 T a L (cT t) n c:=by
 obtain ⟨x0,x1,x2,x3,hx⟩:=l8 t
 rw [hx] at h ⊢
 refine N2 Tryz.func109 rfl ?_;intro _ _ _ _ _ _ _ qi _ qk;intros;rename_i hA
 obtain ⟨e1,e2,e3,e4,e5,e6,e7,e8,e9⟩:=j7 hA
 have g1:qi 200 L=false:=by rw [e7];exact d2U (by omega)
 have g2:qk c 0=false:=by rw [e9];exact d2U hc
 iterate 2 (try cbv;repeat ((first|with_reducible apply f8 hA|rw [g1]|rw [g2]|refine f9 hA _ h rfl ?_|refine i7 hA _ h ?_);cbv))
theorem c7l (hL:L≤200) (h:RdZ 124 T a L (cT t) n 0) (hs:F7 T gTo n false):RdZ 109 T a L (cT t) n 0:=by
 obtain ⟨x0,x1,x2,x3,hx⟩:=l8 t
 rw [hx] at h ⊢
 refine N2 Tryz.func109 rfl ?_;intro _ _ _ _ _ _ _ qi _ qk;intros;rename_i hA
 obtain ⟨e1,e2,e3,e4,e5,e6,e7,e8,e9⟩:=j7 hA
 have g1:qi 200 L=false:=by rw [e7];exact d2U (by omega)
 have g2:qk 0 0=true:=by rw [e9];rfl
 iterate 2 (try cbv;repeat ((first|with_reducible apply f8 hA|rw [g1]|rw [g2]|refine f9 hA _ h rfl ?_|refine i7 hA _ h ?_|refine f9 hA _ hs rfl ?_|refine i7 hA _ hs ?_);cbv))
theorem c7m (hL0:0≤L) (hL:L≤200) (hn0:0≤n) (hn:n≤1048576) (hc:c≠0) (h:RdZ 124 T a L (cT t) n 0) (hs:F7 T gTo n true) (hr:RdZ 109 T (n+1) (L+1) (cT u) n1 c):RdZ 109 T a L (lf0 0) n1 c:=by
 obtain ⟨x0,x1,x2,x3,hx⟩:=l8 t
 obtain ⟨y0,y1,y2,y3,hy⟩:=l8 u
 rw [hx] at h
 rw [hy] at hr
 unfold lf0
 obtain ⟨L1,hL1⟩:∃L1,L1=L+1:=⟨_,rfl⟩
 obtain ⟨n2,hn2⟩:∃n2,n2=n+1:=⟨_,rfl⟩
 rw [←hL1,←hn2] at hr
 refine N2 Tryz.func109 rfl ?_;intro qa qb _ _ _ _ _ qi _ qk;intros;rename_i hA
 obtain ⟨e1,e2,e3,e4,e5,e6,e7,e8,e9⟩:=j7 hA
 have g1:qi 200 L=false:=by rw [e7];exact d2U (by omega)
 have g2:qk 0 0=true:=by rw [e9];rfl
 have g3:qa .i64 (qb n 1)=n2:=by rw [e1,e2,IntWalk.i64_in _ (by omega)];exact hn2.symm
 have g4:qa .i64 (qb L 1)=L1:=by rw [e1,e2,IntWalk.i64_in _ (by omega)];exact hL1.symm
 have g5:qk c 0=false:=by rw [e9];exact d2U hc
 iterate 2 (try cbv;repeat ((first|with_reducible apply f8 hA|rw [g1]|rw [g2]|rw [g3]|rw [g4]|rw [g5]|refine f9 hA _ h rfl ?_|refine i7 hA _ h ?_|refine f9 hA _ hs rfl ?_|refine i7 hA _ hs ?_|refine f9 hA _ hr rfl ?_|refine i7 hA _ hr ?_);cbv))
theorem c92 (hL0:0≤L) (hL:L≤200) (hn0:0≤n) (hn:n≤1048576) (h:RdZ 124 T a L (cT t) n 0) (hs:F7 T gTo n true) (hr:RdZ 109 T (n+1) (L+1) (cT u) n1 0):RdZ 109 T a L (cT (.mk 4 F8 0 [t,u])) n1 0:=by
 rw [show cT (.mk 4 F8 0 [t,u])=[.sc (.int .u8 4),.sc (.string F8),.sc (.int .i64 0),.sl 4 [cT t,cT u]] by rw [cT,rT,rT,rT]]
 obtain ⟨x0,x1,x2,x3,hx⟩:=l8 t
 obtain ⟨y0,y1,y2,y3,hy⟩:=l8 u
 rw [hx] at h ⊢
 rw [hy] at hr ⊢
 obtain ⟨L1,hL1⟩:∃L1,L1=L+1:=⟨_,rfl⟩
 obtain ⟨n2,hn2⟩:∃n2,n2=n+1:=⟨_,rfl⟩
 rw [←hL1,←hn2] at hr
 refine N2 Tryz.func109 rfl ?_;intro qa qb _ _ _ _ _ qi _ qk;intros;rename_i hA
 obtain ⟨e1,e2,e3,e4,e5,e6,e7,e8,e9⟩:=j7 hA
 have g1:qi 200 L=false:=by rw [e7];exact d2U (by omega)
 have g2:qk 0 0=true:=by rw [e9];rfl
 have g3:qa .i64 (qb n 1)=n2:=by rw [e1,e2,IntWalk.i64_in _ (by omega)];exact hn2.symm
 have g4:qa .i64 (qb L 1)=L1:=by rw [e1,e2,IntWalk.i64_in _ (by omega)];exact hL1.symm
 iterate 2 (try cbv;repeat ((first|with_reducible apply f8 hA|rw [g1]|rw [g2]|rw [g3]|rw [g4]|refine f9 hA _ h rfl ?_|refine i7 hA _ h ?_|refine f9 hA _ hs rfl ?_|refine i7 hA _ hs ?_|refine f9 hA _ hr rfl ?_|refine i7 hA _ hr ?_|refine A6 hA true ?_);cbv))
end
end
section
inductive Tm where
 | mk (op:Int) (name arg:ByteArray) (n:Int) (has:Bool) (ann:Ty) (kids:List Tm)
mutual
def cM:Tm→List D
 | .mk op nm ar n h a ks=>.sc (.int .u8 op)::.sc (.string nm)::.sc (.string ar)::.sc (.int .i64 n)::.sc (.bool h)::(cT a++[.sl 10 (rM ks)])
def rM:List Tm→List (List D)
 | []=>[]
 | t::ts=>cM t::rM ts
end
theorem a1H:∀l:List Tm,rM l=l.map cM
 | []=>by rw [rM];rfl
 | t::l=>by rw [rM,a1H l];rfl
theorem a2I (l:List Tm):(rM l).length=l.length:=by rw [a1H,d3o]
def rZ (l:List Int):List (List D):=l.map fun x=>[.sc (.int .i64 x)]
theorem a5O (l:List Int):(rZ l).length=l.length:=by unfold rZ;rw [d3o]
theorem c2j (a b:List Int):rZ (a++b)=rZ a++rZ b:=by unfold rZ;rw [d3Q]
abbrev PL:=Tm×List Int
def cP (p:PL):List D:=cM p.1++[.sl 1 (rZ p.2)]
def rP (l:List PL):List (List D):=l.map cP
theorem c2k (l:List PL):(rP l).length=l.length:=by unfold rP;rw [d3o]
theorem c7n {l:List PL} {k:Nat} {p:PL} (h:l[k]?=some p):(rP l)[k]?=some (cP p):=by unfold rP;rw [d3u,h];rfl
theorem a4v (t:Tm):∃d0 d1 d2 d3 d4 d5 d6 d7 d8 d9,cM t=[d0,d1,d2,d3,d4,d5,d6,d7,d8,d9]:=by
 obtain ⟨op,nm,ar,n,h,a,ks⟩:=t
 obtain ⟨x0,x1,x2,x3,hx⟩:=l8 a
 exact ⟨_,_,_,_,_,x0,x1,x2,x3,_,by rw [cM,hx];rfl⟩
abbrev b2Z (op:Int) (nm ar:ByteArray) (n:Int) (h:Bool):List V:=[vi .u8 op,vs nm,vs ar,vi .i64 n,vb h,vi .u8 0,vs ⟨#[]⟩,vi .i64 0,.em,.em]
abbrev b3a (op:Int) (nm ar:ByteArray) (n:Int) (h:Bool) (y0 y1 y2 y3:D):List V:=[vi .u8 op,vs nm,vs ar,vi .i64 n,vb h,.d y0,.d y1,.d y2,.d y3,.em]
section
variable {op n a:Int} {nm ar:ByteArray} {h:Bool} {y0 y1 y2 y3:D}
theorem c7o:v8 80 [.ag (b3a op nm ar n h y0 y1 y2 y3),vi .i64 a] [] (fun res os=>res=[.ag (b3a op nm ar n h y0 y1 y2 y3++[.own 0])]∧os=[.row true 3 [[.sc (.int .i64 a)]]]):=by
 refine Z5 Tryz.func80 rfl ?_;intros;rename_i hA
 iterate 2 (try cbv;repeat ((first|with_reducible apply f8 hA|refine A6 hA false ?_|refine a1E hA true ?_);cbv))
 try simp (maxSteps:=4000000) only [nc] at *
 exact m9 hA [2] (res':=[.ag (b3a op nm ar n h y0 y1 y2 y3++[.own 0])]) ⟨rfl,rfl,rfl,rfl,rfl,rfl,rfl,rfl⟩ ⟨rfl,rfl⟩
theorem c7p:B0 80 [.ag (b3a op nm ar n h y0 y1 y2 y3),vi .i64 a] [] (fun res os=>res=[.ag [vi .u8 op,vs nm,vs ar,vi .i64 n,vb h,.d y0,.d y1,.d y2,.d y3,.d (.sl 0 []),.d (.sl 1 [[.sc (.int .i64 a)]])]]∧os=[]):=by
 refine a06 Tryz.func80 rfl (by kernel_rfl) (by kernel_rfl) (by kernel_rfl) rfl ?_;intros;rename_i hA K hK
 try cbv;refine gr ?_;try simp only [nc] at *
 exact hK _ rfl
end
theorem B0.args {f:Nat} {vs vs':List V} {os:List O} {Q:List V→List O→Prop} (h:B0 f vs os Q) (hv:∀(I:Nat→Nat→Prop) (w:World) (g:Nat→Value) (us:List Value),m8 I w g us vs'→m8 I w g us vs):B0 f vs' os Q :=
 ⟨h.1,fun I w g args e3=>h.2 I w g args ⟨e3.im,e3.lt,e3.fr,e3.kp,e3.lo,e3.st,e3.obj,e3.dis,e3.out,hv _ _ _ _ e3.tmp,e3.dfr⟩⟩
theorem a1a {α:Type} {l:List α} {k:Nat} {x:α} (h:l[k]?=some x):l.take (k+1)=l.take k++[x]:=by
 obtain ⟨hi,e⟩:=d2Q.1 h
 rw [d3T hi,e]
theorem a4Q {α β:Type} (f:α→List β) (l:List α) (k:Nat):((l.take k).flatMap f).length≤(l.flatMap f).length:=by
 conv=>rhs;rw [←d3X k l,d4O,d2R]
 omega
theorem a4w {α β:Type} (f:α→List β) (l:List α) (k:Nat) (x:α) (h:l[k]?=some x):(f x).length≤(l.flatMap f).length:=by
 have h1:=a4Q f l (k+1)
 rw [a1a h,d4O,d2R,d3j,d3m,d3f] at h1
 omega
def d1v (a:Int) (ks:List PL) (x:Int×List (List D)×List (List D)):Prop:=∃k:Nat,x.1=(k:Int)∧k≤ks.length∧x.2.1=rM ((ks.take k).map fun p=>p.1)∧x.2.2=rZ (a::(ks.take k).flatMap fun p=>p.2)
theorem c2l (op:Int) (nm ar:ByteArray) (n:Int) (h:Bool) (y0 y1 y2 y3:D) (a:Int) (ks:List PL) (hn:ks.length≤1048576) (hf:(ks.flatMap fun p=>p.2).length≤1048576) :
  B0 46 [.ag (b3a op nm ar n h y0 y1 y2 y3),vi .i64 a,.d (.sl 11 (rP ks))] [] (fun res os=>res=[.ag [vi .u8 op,vs nm,vs ar,vi .i64 n,vb h,.d y0,.d y1,.d y2,.d y3,.d (.sl 10 (rM (ks.map fun p=>p.1))),.d (.sl 1 (rZ (a::ks.flatMap fun p=>p.2)))]]∧os=[]):=by
 have hl:=c7o (op:=op) (nm:=nm) (ar:=ar) (n:=n) (h:=h) (a:=a) (y0:=y0) (y1:=y1) (y2:=y2) (y3:=y3)
 obtain ⟨N,hN⟩:∃N,N=ks.length:=⟨_,rfl⟩
 rw [←hN] at hn
 have hft:=fun k=>a4Q (fun p:PL=>p.2) ks k
 have hfo:=fun k q h=>a4w (fun p:PL=>p.2) ks k q h
 obtain ⟨F,hF⟩:∃F,F=(ks.flatMap fun p=>p.2).length:=⟨_,rfl⟩
 rw [←hF] at hf
 simp only [←hF] at hft hfo
 obtain ⟨R0,hK0⟩:∃R0,R0=rP ks:=⟨_,rfl⟩
 rw [←hK0]
 have hlen:R0.length=N:=by rw [hK0,c2k,hN]
 obtain ⟨X,hX⟩:∃X,X=rM (ks.map fun p=>p.1):=⟨_,rfl⟩
 obtain ⟨Y,hY⟩:∃Y,Y=rZ (a::ks.flatMap fun p=>p.2):=⟨_,rfl⟩
 rw [←hX,←hY]
 refine a06 Tryz.func46 rfl (by kernel_rfl) (by kernel_rfl) (by kernel_rfl) rfl ?_;intro qa qb _ _ _ _ _ qi _ _ _ _ _ _ _ _ _ _ _ _ _ _ va vc _ ve;intros;rename_i hA K hK
 obtain ⟨e1,e2,e3,e4,e5,e6,e7,e8,e9⟩:=j7 hA
 obtain ⟨r1,r2,r3,r4⟩:=A8 hA
 iterate 2 (try cbv;repeat ((first|refine a7u hA 4 9 30 true rfl rfl ?_|with_reducible apply f8 hA|(refine y6 hA [] hl ⟨rfl,rfl,rfl,rfl,rfl,rfl,rfl⟩ ?_;rintro _ _ ⟨rfl,rfl⟩));cbv))
 try simp (maxSteps:=4000000) only [nc] at *
 obtain ⟨inv,hi⟩:∃inv,inv=d1v a ks:=⟨_,rfl⟩
 have hi0:inv (0,[],[[.sc (.int .i64 a)]]):=by rw [hi];exact ⟨0,rfl,d3t _,by rw [d5d,d35,rM],rfl⟩
 refine j9 hA (γ:=Int×List (List D)×List (List D)) (fun x=>[(12,.jk),(15,vi .i64 x.1)]) (fun x=>[(0,.kl [3,5]),(3,.row true 3 x.2.2),(5,.row true 30 x.2.1)]) inv (fun x=>N - x.1.toNat) (0,[],[[.sc (.int .i64 a)]]) hi0 ?_ ?_
 ·cbv
 ·intro x hinv
  obtain ⟨z,KL,AL⟩:=x
  cbv;refine gn ?_;try simp only [nc] at *
  rw [hi] at hinv
  obtain ⟨k,hz,hk,hKL,hAL⟩:=hinv
  replace hz:z=(k:Int):=hz
  replace hKL:KL=rM ((ks.take k).map fun p=>p.1):=hKL
  replace hAL:AL=rZ (a::(ks.take k).flatMap fun p=>p.2):=hAL
  have hkl:KL.length=k:=by rw [hKL,a2I,d3o,d3v];omega
  have hal:AL.length≤1048577:=by rw [hAL,a5O,d2X];have:=hft k;omega
  have hlt:qi z (va R0)=decide (k<N):=by rw [e7,r1,hlen,hz];exact d3l.2 (by omega)
  by_cases h9:k<N
  ·rw [d3a h9] at hlt
   obtain ⟨q,hq⟩:∃q,ks[k]?=some q:=⟨_,d2P (by omega)⟩
   obtain ⟨d0,d1,d2,d3,d4,d5,d6,d7,d8,d9,hd⟩:=a4v q.1
   have gx:vc R0 z=some [d0,d1,d2,d3,d4,d5,d6,d7,d8,d9,.sl 1 (rZ q.2)]:=by rw [r2,hz,d2S (by omega),show ((k:Int)).toNat=k by omega,hK0,c7n hq];unfold cP;rw [hd];rfl
   have hz1:qa .i64 (qb z 1)=((k+1:Nat):Int):=by rw [e1,e2,hz,IntWalk.i64_in _ (by omega)];omega
   have hmu:N - (qa .i64 (qb z 1)).toNat<N - z.toNat:=by rw [hz1,hz];omega
   have hin:inv (qa .i64 (qb z 1),KL++[[d0,d1,d2,d3,d4,d5,d6,d7,d8,d9]],AL++rZ q.2):=by
    rw [hi]
    refine ⟨k+1,hz1,by omega,?_,?_⟩
    ·show KL++_=_
     rw [hKL,a1H,a1H,←hd,a1a hq]
     simp
    ·show AL++_=_
     rw [hAL,←c2j,a1a hq]
     simp
   have hq2:(rZ q.2).length≤1048576:=by rw [a5O];have:=hfo k q hq;omega
   generalize rZ q.2=Q at *
   have q1:ve KL [[d0,d1,d2,d3,d4,d5,d6,d7,d8,d9]]=KL++[[d0,d1,d2,d3,d4,d5,d6,d7,d8,d9]]:=by rw [r4]
   have q2:ve AL Q=AL++Q:=by rw [r4]
   rw [hlt]
   iterate 2 (try cbv;repeat ((first|with_reducible apply f8 hA|rw [gx]|rw [q1]|rw [q2]|refine A6 hA true ?_|(refine B3 hA (by simp only [d2X,d3g];omega) ?_)|refine B3 hA (by omega) ?_);cbv))
   try simp (maxSteps:=4000000) only [nc] at *
   refine ⟨_,hin,hmu,?_⟩
   cbv
  ·rw [d2U h9] at hlt
   have hk2:ks.take k=ks:=d31 (by omega)
   have hX2:X=KL:=by rw [hX,hKL,hk2]
   have hY2:Y=AL:=by rw [hY,hAL,hk2]
   rw [hX2,hY2] at hK
   rw [hlt]
   try cbv;refine gr ?_;try simp only [nc] at *
   exact hK _ rfl
end
end Go.Proofs.YtahpnackkmbmgaaGreat.Vm
end
