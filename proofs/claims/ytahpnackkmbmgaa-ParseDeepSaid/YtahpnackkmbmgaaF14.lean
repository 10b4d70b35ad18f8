/- Part 14 of the proof. Conditions: none. -/
import Derived.Test.YtahpnackkmbmgaaF4
import Derived.Test.YtahpnackkmbmgaaF6
import Derived.Test.YtahpnackkmbmgaaF10
import Derived.Test.YtahpnackkmbmgaaF13
import Derived.Test.YtahpnackkmbmgaaF0
set_option linter.all false
set_option linter.unusedVariables false
set_option linter.unusedSimpArgs false
section
namespace Go.Proofs.Ytahpnackkmbmgaa.Vm
open Go.RowKit
set_option maxRecDepth 100000
set_option maxHeartbeats 4000000
theorem b6R {op:Int} (h:b1m op=none):N6 op=none:=by
 unfold b1m at h
 unfold N6
 repeat' split at h
 all_goals first|(cases h;done)|skip
 rename_i h1 h2 h3 h4 h5 h6 h7
 rw [c8W (by omega),c8W h2,c8W h3,c8W h7]
theorem b6S {op:Int} {kn:Int} {a b:Bool} (h:b1m op=some (kn,a,b)) (nm:ByteArray) (n:Int) (ks:List Ty) (row:Bool) :
  a5n B2 (.mk op nm n ks) (sI row)=hd2 row (decide (8≤op)) (decide ((ks.length:Int)=kn)) a (B2 nm) (decide (nm.toList=[])) (decide (n<0)) b (n == 0)∧(∃kk,N6 op=some kk∧(kk.length:Int)=kn∧∀(k:Nat) (c:Int),kk[k]?=some c→sI (orB (op == 5) (orB (op == 6) (nmF (op == 11) (k == 1) false)))=c) ∧
   (b=true∧(vbl (.mk op nm n ks)=some (n,decide (op=10)))∧(op=10∨op=7)∨b=false∧vbl (.mk op nm n ks)=none):=by
 have key:∀(i:Int) (kk:List Int),op=i→N6 i=some kk→(kk.length:Int)=kn→(∀(k:Nat) (c:Int),kk[k]?=some c→sI (orB (i == 5) (orB (i == 6) (nmF (i == 11) (k == 1) false)))=c)→a=(i == 11)→b=((i == 7) || (i == 10)) →
   a5n B2 (.mk op nm n ks) (sI row)=hd2 row (decide (8≤op)) (decide ((ks.length:Int)=kn)) a (B2 nm) (decide (nm.toList=[])) (decide (n<0)) b (n == 0)∧(∃kk,N6 op=some kk∧(kk.length:Int)=kn∧∀(k:Nat) (c:Int),kk[k]?=some c→sI (orB (op == 5) (orB (op == 6) (nmF (op == 11) (k == 1) false)))=c):=by
  rintro i kk rfl h1 h2 h3 rfl rfl
  refine ⟨?_,kk,h1,h2,h3⟩
  rw [c2s,h1]
  have hk:=b0f h1
  have e1:decide (ks.length=(a8D op).size)=decide ((ks.length:Int)=kn):=by
   have:kk.length=(a8D op).size:=by rw [hk,c9r,L4]
   exact c9w.2 (by omega)
  have e2:(decide (8≤op) == (sI row == 114))=(row == decide (8≤op)):=by cases row <;> cases decide (8≤op) <;> rfl
  unfold hdF hd2
  rw [e1,e2]
  simp only [Option.isSome_some,d0N,Bool.or_assoc]
  cases (op == 11) <;> rfl
 have two:∀ {l:List Int} {P:Nat→Int→Prop} {x y:Int},l=[x,y]→P 0 x→P 1 y→∀(k:Nat) (c:Int),l[k]?=some c→P k c:=by
  rintro l P x y rfl h0 h1 k c h
  match k,h with
  | 0,h=>cases h;exact h0
  | 1,h=>cases h;exact h1
  | k+2,h=>simp at h
 have one:∀ {l:List Int} {P:Nat→Int→Prop} {x:Int},l=[x]→P 0 x→∀(k:Nat) (c:Int),l[k]?=some c→P k c:=by
  rintro l P x rfl h0 k c h
  match k,h with
  | 0,h=>cases h;exact h0
  | k+1,h=>simp at h
 have zero:∀ {P:Nat→Int→Prop},∀(k:Nat) (c:Int),([]:List Int)[k]?=some c→P k c:=fun k c h=>by simp at h
 unfold b1m at h
 repeat' split at h
 all_goals first|(cases h;done)|skip
 all_goals
  cases h
  rename_i h
  first
  | (rcases h with h|h|h <;> subst h <;> exact ⟨(key _ _ rfl rfl rfl zero rfl rfl).1,(key _ _ rfl rfl rfl zero rfl rfl).2,.inr ⟨rfl,rfl⟩⟩)
  | (rcases h with h|h <;> subst h <;> first|exact ⟨(key _ _ rfl rfl rfl zero rfl rfl).1,(key _ _ rfl rfl rfl zero rfl rfl).2,.inr ⟨rfl,rfl⟩⟩|exact ⟨(key _ _ rfl rfl rfl (one rfl rfl) rfl rfl).1,(key _ _ rfl rfl rfl (one rfl rfl) rfl rfl).2,.inr ⟨rfl,rfl⟩⟩)
  | (subst h;exact ⟨(key _ _ rfl rfl rfl zero rfl rfl).1,(key _ _ rfl rfl rfl zero rfl rfl).2,.inl ⟨rfl,rfl,by decide⟩⟩)
  | (subst h;exact ⟨(key _ _ rfl rfl rfl (two rfl rfl rfl) rfl rfl).1,(key _ _ rfl rfl rfl (two rfl rfl rfl) rfl rfl).2,.inr ⟨rfl,rfl⟩⟩)
theorem b52:∀(t:Ty),t.parts.length≤1048576→(∀x∈t.parts,x.name.size≤1048576)→∀(row:Bool) (es:List (R×R)) (s:Int→Option Bool),SAt es s →
  n7 109 [.mp 0,.ag (y5 (cT t)),vb row] [.mp 3 es] (a6j (F6 B2 t (sI row) && (G6 t.parts s).isSome) (G6 t.parts s)):=by
 intro t
 induction t using Ty.ind with
 | h t ih =>
  intro hN hnm row es s hes
  have hkl:=Q0 t
  have hself:=hnm t (by rw [Y8];exact c8V ..)
  have hkn:∀x∈t.kids,∀y∈x.parts,y.name.size≤1048576:=fun x hx y hy=>hnm y (by rw [A9];exact c8X _ (c9K.2 ⟨x,hx,hy⟩))
  have ih2:∀x∈t.kids,∀(row:Bool) (es:List (R×R)) (s:Int→Option Bool),SAt es s→n7 109 [.mp 0,.ag (y5 (cT x)),vb row] [.mp 3 es] (a6j (F6 B2 x (sI row) && (G6 x.parts s).isSome) (G6 x.parts s)):=fun x hx=>ih x hx (by have:=hkl.2 x hx;omega) (hkn x hx)
  have hsh:=a8v B2 t (sI row)
  have hpm:G6 t.parts s=match vbl t with|none=>G6 (Y7 t.kids) s|some p=>if s p.1=some (!p.2) then none else G6 (Y7 t.kids) (b1j s p.1 p.2):=by
   rw [Y8,G6]
   cases vbl t <;> rfl
  obtain ⟨op,nm,n,ks⟩:=t
  simp only [Ty.kids,Ty.op] at hkl ih2 hsh hpm
  have hself:nm.size≤1048576:=hself
  generalize hbb:(F6 B2 (.mk op nm n ks) (sI row) && (G6 (Ty.mk op nm n ks).parts s).isSome)=b
  generalize hFF:G6 (Ty.mk op nm n ks).parts s=F at *
  rw [cT]
  have hb:Try.f109.body=some (.seq (K2 (Try.f109.body.getD .skip)) (.seq (K2 (j6 (Try.f109.body.getD .skip))) (.seq (K2 (j6 (j6 (Try.f109.body.getD .skip)))) (.seq (K2 (j6 (j6 (j6 (Try.f109.body.getD .skip))))) (j6 (j6 (j6 (j6 (Try.f109.body.getD .skip))))))))):=by kernel_rfl
  refine a8c Try.func109 hb (by kernel_rfl) (by kernel_rfl) (by kernel_rfl) ?_;intro qa qb qc qd qe qg qh qi qj qk ql qm qo qp qq qt qu qv qw qx qy qz va vc vd ve vf vg vh vj vk vl vm vn vo vp vq vr vt vu vv vw vx;intros;rename_i hA
  refine b6Q op nm n (rT ks) row es _ _ ?_ ?_ qa qb qc qd qe qg qh qi qj qk ql qm qo qp qq qt qu qv qw qx qy qz va vc vd ve vf vg vh vj vk vl vm vn vo vp vq vr vt vu vv vw vx hA
  ·intro kn a c hask j12 j13 j14 j15 j16 j17 j18 j19 j20 j21 j22 j23 j24 j25 j26 j27 j28 j29 j30 j31
   obtain ⟨hh,⟨kk,hkk1,hkk2,hkk3⟩,hv⟩:=b6S hask nm n ks row
   rw [hkk1] at hsh
   have hsh:F6 B2 (.mk op nm n ks) (sI row)=(a5n B2 (.mk op nm n ks) (sI row) && F7 B2 ks kk):=hsh
   rw [hh] at hsh
   have hbody:=b4b op nm n ks row es s kn a c j12 j13 j14 j15 j16 j17 j18 j19 j20 j21 j22 j23 j24 j25 j26 j27 j28 j29 j30 j31 kk b F hes hself (by omega) (fun h=>by omega) hkk3 (fun h=>by rw [←hbb,hsh,h,d0N]) (fun h=>by rw [←hbb,hsh,h,d1p,d1p]) (fun h=>?_) ih2 qa qb qc qd qe qg qh qi qj qk ql qm qo qp qq qt qu qv qw qx qy qz va vc vd ve vf vg vh vj vk vl vm vn vo vp vq vr vt vu vv vw vx hA
   ·rw [hA] at hbody ⊢
    exact hbody
   ·rw [hpm]
    rcases hv with ⟨rfl,hv,ho⟩|⟨rfl,hv⟩
    ·rw [hv]
     have hr:decide (op=10)=row:=by
      unfold hd2 at h
      have h1:(row == decide (8≤op))=true:=by revert h;cases (row == decide (8≤op)) <;> simp
      rw [d0c] at h1
      rw [h1]
      rcases ho with rfl|rfl <;> rfl
     rw [hr]
     rfl
    ·rw [hv]
     rfl
  ·intro hn st ho h6
   have hk:=b6R hn
   have hbf:b=false:=by
    rw [←hbb,hsh]
    unfold a5n
    rw [show (Ty.mk op nm n ks).op=op from rfl,hk]
    rfl
   show vt 1 (a6j b F) [n6 st.t 6] st
   rw [h6]
   exact j9 hA [0] ⟨rfl,rfl,rfl,rfl,by rw [ho];rfl,rfl,rfl,rfl⟩ ⟨es,rfl,hes.1,by rw [hbf],fun h=>by rw [hbf] at h;cases h⟩
theorem b2O (t:Ty) (row:Bool):(F6 B2 t (sI row) && (G6 t.parts fun _=>none).isSome)=I8 t (sI row):=by rw [b6P];rfl
theorem b9I (t:Ty) (hN:t.parts.length≤1048576) (hnm:∀x∈t.parts,x.name.size≤1048576):A0 95 [.ag (cT t)] [.one (.sc (.bool (I8 t 116)))]:=by
 have h1:=b52 t hN hnm false [] (fun _=>none) SAt.nil
 rw [b2O] at h1
 have e:I8 t (sI false)=I8 t 116:=rfl
 rw [e] at h1
 generalize I8 t 116=b at *
 generalize G6 t.parts (fun _=>none)=F at *
 obtain ⟨c0,c1,c2,c3,hc⟩:∃c0 c1 c2 c3,cT t=[c0,c1,c2,c3]:=by obtain ⟨op,nm,n,ks⟩:=t;exact ⟨_,_,_,_,by rw [cT]⟩
 rw [hc] at h1 ⊢
 refine sp9 Try.func95 rfl ?_;intros;rename_i hA
 cbv
 repeat ((with_reducible apply f8 hA);cbv)
 refine o6 hA [1] h1 ⟨rfl,rfl,rfl,rfl,rfl,rfl,rfl⟩ ?_
 rintro res os2 ⟨es',rfl,hk',rfl,hm'⟩
 cbv
 repeat ((with_reducible apply f8 hA);cbv)
theorem c5a (t:Ty) (hN:t.parts.length≤1048576) (hnm:∀x∈t.parts,x.name.size≤1048576):A0 120 [.ag (cT t)] [.one (.sc (.bool (I8 t 114)))]:=by
 have h1:=b52 t hN hnm true [] (fun _=>none) SAt.nil
 rw [b2O] at h1
 have e:I8 t (sI true)=I8 t 114:=rfl
 rw [e] at h1
 generalize I8 t 114=b at *
 generalize G6 t.parts (fun _=>none)=F at *
 obtain ⟨c0,c1,c2,c3,hc⟩:∃c0 c1 c2 c3,cT t=[c0,c1,c2,c3]:=by obtain ⟨op,nm,n,ks⟩:=t;exact ⟨_,_,_,_,by rw [cT]⟩
 rw [hc] at h1 ⊢
 refine sp9 Try.func120 rfl ?_;intros;rename_i hA
 cbv
 repeat ((with_reducible apply f8 hA);cbv)
 refine o6 hA [1] h1 ⟨rfl,rfl,rfl,rfl,rfl,rfl,rfl⟩ ?_
 rintro res os2 ⟨es',rfl,hk',rfl,hm'⟩
 cbv
 repeat ((with_reducible apply f8 hA);cbv)
theorem b9J (t:Ty) (hN:t.parts.length≤1048576) (hnm:∀x∈t.parts,x.name.size≤1048576):A0 110 [.ag (cT t)] [.one (.sc (.bool (I8 t 116 || I8 t 114)))]:=by
 have h1:=b9I t hN hnm
 have h2:=c5a t hN hnm
 generalize I8 t 116=q1 at *
 generalize I8 t 114=q2 at *
 obtain ⟨c0,c1,c2,c3,hc⟩:∃c0 c1 c2 c3,cT t=[c0,c1,c2,c3]:=by obtain ⟨op,nm,n,ks⟩:=t;exact ⟨_,_,_,_,by rw [cT]⟩
 rw [hc] at h1 h2 ⊢
 refine sp9 Try.func110 rfl ?_;intros;rename_i hA
 cbv;refine gn ?_
 refine i9 hA _ h1 ?_ ?_
 ·rfl
 cases q1
 ·cbv
  repeat ((with_reducible apply f8 hA);cbv)
  refine i9 hA _ h2 ?_ ?_
  ·rfl
  cbv
  repeat ((with_reducible apply f8 hA);cbv)
 ·cbv
  repeat ((with_reducible apply f8 hA);cbv)
def a0y (t:Ty):Bool:=I8 t 116 || I8 t 114
def Sm (t:Ty):Prop:=t.parts.length≤1048576∧∀x∈t.parts,x.name.size≤1048576
theorem a69 {t:Ty} {s:Int} (h:I8 t s=true):F6 B2 t s=true∧a63 t=true:=by
 unfold I8 at h
 rwa [c8Z] at h
theorem b1n {t:Ty} (h:a0y t=true):∃s,F6 B2 t s=true:=by
 unfold a0y at h
 rw [c96] at h
 rcases h with h|h
 ·exact ⟨_,(a69 h).1⟩
 ·exact ⟨_,(a69 h).1⟩
theorem b1o {t:Ty} (h:a0y t=true):B9 t:=by
 obtain ⟨s,h⟩:=b1n h
 exact a89 h
theorem A0.mono {f:Nat} {rs q q':List R} (h:A0 f rs q) (hq:∀I w v,a2C I w v q→a2C I w v q'):A0 f rs q' :=
 ⟨h.1,fun I w args h1 h2=>(h.2 I w args h1 h2).mono fun e w' ⟨v,e1,e2,e3⟩=>⟨v,e1,hq _ _ _ e2,e3⟩⟩
theorem AtD.empty {I:Nat→Nat→Prop} {w:World} {v:Value} {n:Nat} (m:Nat) (h:AtD I w v (.sl n [])):AtD I w v (.sl m []):=by
 generalize hr:([]:List (List D))=rows at h
 cases h with
 | nil A cap sz=>exact .nil _ _ _
 | sl b off cap sz rows us=>subst hr;exact .nil _ _ _
theorem B0.last {I:Nat→Nat→Prop} {w:World} {us:List Value} {xs:List D} {x y:D} (h:B0 I w us (xs++[x])) (hx:∀u,AtD I w u x→AtD I w u y):B0 I w us (xs++[y]):=by
 refine ⟨by have:=h.1;simpa using this,fun i u d hu hd=>?_⟩
 rcases c9N i xs.length with hlt|hge
 ·rw [c9l hlt] at hd
  exact h.2 i u d hu (by rw [c9l hlt];exact hd)
 ·rw [c9b hge] at hd
  obtain e:i - xs.length=0:=by
   have:=(c8S.1 hd).1
   simp at this
   omega
  rw [e] at hd
  simp at hd
  subst hd
  exact hx u (h.2 i u x hu (by rw [c9b hge,e];rfl))
theorem A0.sl0 {f:Nat} {rs:List R} {a b c:D} {n:Nat} (m:Nat) (h:A0 f rs [.ag [a,b,c,.sl n []]]):A0 f rs [.ag [a,b,c,.sl m []]]:=h.mono fun I w v hv=>by
 obtain ⟨us,rfl,h2⟩:=hv
 exact ⟨us,rfl,B0.last (xs:=[a,b,c]) h2 fun u hu=>hu.empty m⟩
theorem c2t (t:Ty) (ht:Sm t):A0 129 [.ag (cT t)] [.ag (cT (if a0y t=true then C6 t else s8))]:=by
 have h1:=b9J t ht.1 ht.2
 have hb:(I8 t 116 || I8 t 114)=a0y t:=rfl
 rw [hb] at h1
 by_cases he:a0y t=true
 ·rw [c8Y he]
  have h2:=b9G _ t (c9c _) ht.1 (b1o he)
  rw [he] at h1
  obtain ⟨a0,a1,a2,a3,ha⟩:=w8 t
  obtain ⟨c0,c1,c2,c3,hc⟩:=w8 (C6 t)
  rw [ha] at h1 h2
  rw [hc] at h2
  rw [ha,hc]
  refine sp9 Try.func129 rfl fun qa qb qc qd qe qg qh qi qj qk ql qm qo qp qq qt qu qv qw qx qy qz va vc vd ve vf vg vh vj vk vl vm vn vo vp vq vr vt vu vv vw vx hA=>?_
  iterate 2 (try cbv;repeat ((first|with_reducible apply f8 hA|refine i9 hA _ h1 rfl ?_|refine i9 hA _ h2 rfl ?_);cbv))
 ·have he:a0y t=false:=by simpa using he
  rw [he,c8W (by simp)]
  rw [he] at h1
  obtain ⟨a0,a1,a2,a3,ha⟩:=w8 t
  rw [ha] at h1 ⊢
  unfold s8
  rw [cT,rT]
  refine A0.sl0 (n:=0) 4 ?_
  refine sp9 Try.func129 rfl fun qa qb qc qd qe qg qh qi qj qk ql qm qo qp qq qt qu qv qw qx qy qz va vc vd ve vf vg vh vj vk vl vm vn vo vp vq vr vt vu vv vw vx hA=>?_
  iterate 2 (try cbv;repeat ((first|with_reducible apply f8 hA|refine i9 hA _ h1 rfl ?_);cbv))
theorem b4c {W:ByteArray→Bool} {t:Ty}:∀ {s:Int},F6 W t s=true→∀x∈t.parts,∃c,F6 W x c=true:=by
 induction t using Ty.ind with
 | h t ih =>
  intro s h x hx
  rw [A9] at hx
  rcases c9e.1 hx with rfl|hx
  ·exact ⟨s,h⟩
  ·obtain ⟨y,hy,hxy⟩:=c9K.1 hx
   obtain ⟨k,hk,h1,h2,h3,h4,h5,h6⟩:=a68 h
   obtain ⟨c,hc⟩:=a21 W _ _ h6 y hy
   exact ih y hy hc x hxy
theorem b6T {nm:ByteArray} (h:B2 nm=true):nm.size≤32:=by
 unfold B2 at h
 rw [c8Z] at h
 exact c9B h.1
theorem b4d {t:Ty} {s:Int} (h:F6 B2 t s=true):t.name.size≤32:=by
 obtain ⟨k,hk,h1,h2,h3,-⟩:=a68 h
 split at h3
 ·exact b6T h3
 ·have h4:t.name.toList=[]:=c9B h3
  have h5:t.name.data.toList=[]:=by rw [←ByteArray.toList_eq];exact h4
  have h6:t.name.size=t.name.data.toList.length:=by rw [d0q];rfl
  rw [h6,h5]
  simp
theorem c6B {t:Ty} {s:Int} (h:F6 B2 t s=true) (hN:t.parts.length≤1048576):Sm t:=⟨hN,fun x hx=>by
 obtain ⟨c,hc⟩:=b4c h x hx
 have:=b4d hc
 omega⟩
theorem b1p (ts:List Tok) (t:Tok) (a:Nat) (ht:ts[a]?=some t) (hl:ts.length≤1048576) (c:Int):n7 136 [.ptr 0 0,vi .u8 c] (T4 0 0 (H8 ts) (a:Int)) (fun res os=>res=[]∧os=T4 c t.at_ (H8 ts) (a:Int)):=by
 have hp:=a3l ts t a ht hl
 unfold tkD rdB at hp
 unfold T4
 generalize H8 ts=T at *
 generalize t.kind=tk at *
 generalize t.text=tx at *
 generalize t.n=tn at *
 generalize t.at_=ta at *
 generalize ((a:Nat):Int)=z at *
 refine N9 Try.func136 rfl ?_;intro _ _ _ _ _ _ _ _ _ qk _ _ _ _ _ _ _ _ _ _ _ _ _ _ _ _ _ _ _ _ _ _ _ _ _ _ _ _ _ _ _ vw;intros;rename_i hA
 obtain ⟨e1,e2,e3,e4,e5,e6,e7,e8,e9⟩:=m6 hA
 have q1:qk 0 0=true:=by rw [e9];rfl
 have r0:=hp;exact T1
theorem b9K (T:List (List D)) (e p z c:Int) (he:e≠0):n7 136 [.ptr 0 0,vi .u8 c] (T4 e p T z) (fun res os=>res=[]∧os=T4 e p T z):=by
 unfold T4
 refine N9 Try.func136 rfl ?_;intro _ _ _ _ _ _ _ _ _ qk _ _ _ _ _ _ _ _ _ _ _ _ _ _ _ _ _ _ _ _ _ _ _ _ _ _ _ _ _ _ _ vw;intros;rename_i hA
 obtain ⟨e1,e2,e3,e4,e5,e6,e7,e8,e9⟩:=m6 hA
 have q1:qk e 0=false:=by rw [e9];exact c9d he
 exact T1
theorem c2u (ts:List Tok) (t:Tok) (a:Nat) (ht:ts[a]?=some t) (hl:ts.length≤1048576) (s:ByteArray):n7 138 [.ptr 0 0,vs s] (T4 0 0 (H8 ts) (a:Int)) (fun res os=>res=[vb (Z7 t s)]∧os=T4 0 0 (H8 ts) ((if Z7 t s=true then a+1 else a:Nat):Int)):=by
 have hq:=b0X ts t a ht hl s
 unfold rdB at hq
 unfold T4
 generalize H8 ts=T at *
 generalize Z7 t s=b at *
 generalize ((if b=true then a+1 else a:Nat):Int)=y at *
 generalize ((a:Nat):Int)=z at *
 refine N9 Try.func138 rfl ?_;intro _ _ _ _ _ _ _ _ _ qk;intros;rename_i hA
 obtain ⟨e1,e2,e3,e4,e5,e6,e7,e8,e9⟩:=m6 hA
 have q1:qk 0 0=true:=by rw [e9];rfl
 cases b
 ·iterate 2 (try cbv;repeat ((first|with_reducible apply f8 hA|rw [q1]|refine v7 hA [1] hq ?_);cbv))
  try simp (maxSteps:=4000000) only [nc] at *
  exact j9 hA [0,1] ⟨rfl,rfl,rfl,rfl,rfl,rfl,rfl,rfl⟩ ⟨rfl,rfl⟩
 ·iterate 2 (try cbv;repeat ((first|with_reducible apply f8 hA|rw [q1]|refine v7 hA [1] hq ?_);cbv))
  try simp (maxSteps:=4000000) only [nc] at *
  exact j9 hA [0,1] ⟨rfl,rfl,rfl,rfl,rfl,rfl,rfl,rfl⟩ ⟨rfl,rfl⟩
theorem b9L (T:List (List D)) (e p z:Int) (he:e≠0) (s:ByteArray):n7 138 [.ptr 0 0,vs s] (T4 e p T z) (fun res os=>res=[vb false]∧os=T4 e p T z):=by
 unfold T4
 refine N9 Try.func138 rfl ?_;intro _ _ _ _ _ _ _ _ _ qk _ _ _ _ _ _ _ _ _ _ _ _ _ _ _ _ _ _ _ _ _ _ _ _ _ _ _ _ _ _ _ vw;intros;rename_i hA
 obtain ⟨e1,e2,e3,e4,e5,e6,e7,e8,e9⟩:=m6 hA
 have q1:qk e 0=false:=by rw [e9];exact c9d he
 exact T1
theorem c2v (ts:List Tok) (t:Tok) (a:Nat) (ht:ts[a]?=some t) (hl:ts.length≤1048576) (s:ByteArray):n7 149 [.ptr 0 0,vs s] (T4 0 0 (H8 ts) (a:Int)) (fun res os=>res=[]∧os=if Z7 t s=true then T4 0 0 (H8 ts) ((a+1:Nat):Int) else T4 5 t.at_ (H8 ts) (a:Int)):=by
 have hq:=b0X ts t a ht hl s
 have hf:=b1p ts t a ht hl 5
 unfold rdB at hq
 unfold T4 at hf ⊢
 generalize H8 ts=T at *
 generalize Z7 t s=b at *
 generalize t.at_=ta at *
 cases b
 ·rw [c8W (by decide)] at hq
  rw [c8W (by decide)]
  generalize ((a:Nat):Int)=z at *
  refine N9 Try.func149 rfl fun qa qb qc qd qe qg qh qi qj qk ql qm qo qp qq qt qu qv qw qx qy qz va vc vd ve vf vg vh vj vk vl vm vn vo vp vq vr vt vu vv vw vx hA=>?_
  obtain ⟨e1,e2,e3,e4,e5,e6,e7,e8,e9⟩:=m6 hA
  have q1:qk 0 0=true:=by rw [e9];rfl
  iterate 2 (try cbv;repeat ((first|with_reducible apply f8 hA|rw [q1]|refine v7 hA [1] hq ?_|refine v7 hA [0,1] hf ?_);cbv))
  try simp (maxSteps:=4000000) only [nc] at *
  exact j9 hA [0,1] ⟨rfl,rfl,rfl,rfl,rfl,rfl,rfl,rfl⟩ ⟨rfl,rfl⟩
 ·rw [c8Y rfl] at hq
  rw [c8Y rfl]
  generalize ((a+1:Nat):Int)=y at *
  generalize ((a:Nat):Int)=z at *
  refine N9 Try.func149 rfl fun qa qb qc qd qe qg qh qi qj qk ql qm qo qp qq qt qu qv qw qx qy qz va vc vd ve vf vg vh vj vk vl vm vn vo vp vq vr vt vu vv vw vx hA=>?_
  obtain ⟨e1,e2,e3,e4,e5,e6,e7,e8,e9⟩:=m6 hA
  have q1:qk 0 0=true:=by rw [e9];rfl
  iterate 2 (try cbv;repeat ((first|with_reducible apply f8 hA|rw [q1]|refine v7 hA [1] hq ?_);cbv))
  try simp (maxSteps:=4000000) only [nc] at *
  exact j9 hA [0,1] ⟨rfl,rfl,rfl,rfl,rfl,rfl,rfl,rfl⟩ ⟨rfl,rfl⟩
theorem b9M (T:List (List D)) (e p z:Int) (he:e≠0) (s:ByteArray):n7 149 [.ptr 0 0,vs s] (T4 e p T z) (fun res os=>res=[]∧os=T4 e p T z):=by
 unfold T4
 refine N9 Try.func149 rfl ?_;intro _ _ _ _ _ _ _ _ _ qk _ _ _ _ _ _ _ _ _ _ _ _ _ _ _ _ _ _ _ _ _ _ _ _ _ _ _ _ _ _ _ vw;intros;rename_i hA
 obtain ⟨e1,e2,e3,e4,e5,e6,e7,e8,e9⟩:=m6 hA
 have q1:qk e 0=false:=by rw [e9];exact c9d he
 exact T1
theorem n7.reread {f:Nat} {vs:List V} {os:List O} {Q Q2:List V→List O→Prop} (h:n7 f vs os Q) (hQ:∀res os2,Q res os2→∃res2,Q2 res2 os2∧∀(I:Nat→Nat→Prop) (w:World) (g:Nat→Value) (us:List Value),j8 I w g us res→j8 I w g us res2):n7 f vs os Q2 :=
 ⟨h.1,fun I w g args hr=>(h.2 I w g args hr).mono fun e w' ⟨us,res,os2,I',g',e1,e2,e3⟩=>by
  obtain ⟨res2,q,hv⟩:=hQ res os2 e2
  exact ⟨us,res2,os2,I',g',e1,q,⟨e3.im,e3.lt,e3.fr,e3.kp,e3.lo,e3.st,e3.obj,e3.dis,e3.out,hv _ _ _ _ e3.tmp,e3.dfr⟩⟩⟩
theorem nil4 {I:Nat→Nat→Prop} {w:World} {g:Nat→Value} {us:List Value} {a b c:V} {z:Nat} (h:j8 I w g us [.ag [a,b,c,.em]]):j8 I w g us [.ag [a,b,c,.d (.sl z [])]] :=
 h.reset (i:=0) fun v hv=>by
  have h4:=h.2 0 v _ hv rfl
  obtain ⟨ks,rfl,h5⟩:=h4.unag
  exact M7 (h5.reset (i:=3) fun v hv=>by rw [(h5.2 3 v _ hv rfl).unem];exact .d (.nil _ _ _))
theorem n7.nil4 {f:Nat} {vs:List V} {os os':List O} {a b c:V} {z:Nat} (h:n7 f vs os (fun res os2=>res=[.ag [a,b,c,.em]]∧os2=os')):n7 f vs os (fun res os2=>res=[.ag [a,b,c,.d (.sl z [])]]∧os2=os') :=
 h.reread fun res os2 ⟨h1,h2⟩=>⟨_,⟨rfl,h2⟩,fun I w g us hv=>Vm.nil4 (h1 ▸ hv)⟩
theorem a6k:y5 (cT s8)=[.d (.sc (.int .u8 0)),.d (.sc (.string ⟨#[]⟩)),.d (.sc (.int .i64 0)),.d (.sl 4 [])]:=by
 unfold s8
 rw [cT,rT]
 rfl
theorem b6U (T:List (List D)) (e p z L:Int) (he:e≠0):n7 128 [.ptr 0 0,vi .i64 L] (T4 e p T z) (fun res os=>res=[.ag (y5 (cT s8))]∧os=T4 e p T z):=by
 unfold T4
 rw [a6k]
 refine n7.nil4 ?_
 refine N9 Try.func128 rfl ?_;intro _ _ _ _ _ _ _ _ _ qk _ _ _ _ _ _ _ _ _ _ _ _ _ _ _ _ _ _ _ _ _ _ _ _ _ _ _ _ _ _ _ vw;intros;rename_i hA
 obtain ⟨e1,e2,e3,e4,e5,e6,e7,e8,e9⟩:=m6 hA
 have q1:qk e 0=false:=by rw [e9];exact c9d he
 exact T1
theorem b4e (ts:List Tok) (t:Tok) (a:Nat) (ht:ts[a]?=some t) (hl:ts.length≤1048576) (L:Int) (hL:200<L):n7 128 [.ptr 0 0,vi .i64 L] (T4 0 0 (H8 ts) (a:Int)) (fun res os=>res=[.ag (y5 (cT s8))]∧os=T4 6 t.at_ (H8 ts) (a:Int)):=by
 have hf:=b1p ts t a ht hl 6
 unfold T4 at *
 rw [a6k]
 refine n7.nil4 ?_
 generalize H8 ts=T at *
 generalize t.at_=ta at *
 generalize ((a:Nat):Int)=z at *
 refine N9 Try.func128 rfl ?_;intro _ _ _ _ _ _ _ qi _ qk _ _ _ _ _ _ _ _ _ _ _ _ _ _ _ _ _ _ _ _ _ _ _ _ _ _ _ _ _ _ _ vw;intros;rename_i hA
 obtain ⟨e1,e2,e3,e4,e5,e6,e7,e8,e9⟩:=m6 hA
 have q1:qk 0 0=true:=by rw [e9];rfl
 have q2:qi 200 L=true:=by rw [e7];exact c9j hL
 have p0:=hf;exact T1
theorem c2w {l:List ByteArray} {k:Nat} {s:ByteArray} (h:l[k]?=some s):(rSt l)[k]?=some [.sc (.string s)]:=by unfold rSt;rw [c9v,h];rfl
def c8m (ts:List Tok) (l:List ByteArray) (p:PE) (z:Int):Prop:=∃k:Nat,z=(k:Int)∧k≤l.length∧r7 ts (l.drop k) p=r7 ts l p
theorem a8E {ts:List Tok} (hl:ts.length≤1048576) {p:PE} (hp:p.1<ts.length) (l:List ByteArray) (hn:l.length≤100):G9 94 [.d (.sl 1 (rSt l))] ts p [vs ((r7 ts l p).getD N5)] (a1A ts l p):=by
 have hsk:=fun s=>Y9 hl hp s
 obtain ⟨N,hN⟩:∃N,N=l.length:=⟨_,rfl⟩
 rw [←hN] at hn
 have hlen:(rSt l).length=N:=by unfold rSt;rw [c9r,hN]
 have hgt:∀(k:Nat) (s:ByteArray),l[k]?=some s→(rSt l)[k]?=some [.sc (.string s)]:=fun k s h=>c2w h
 generalize rSt l=R0 at *
 obtain ⟨inv,hi⟩:∃inv,inv=c8m ts l p:=⟨_,rfl⟩
 have hi0:inv 0:=by rw [hi];exact ⟨0,rfl,c95 _,by rw [d07]⟩
 have hhit:∀s,r7 ts l p=some s→a1A ts l p=(p.1+1,0):=fun s h=>by unfold a1A;rw [h]
 have hno:r7 ts l p=none→a1A ts l p=p:=fun h=>by unfold a1A;rw [h]
 have hsp:∀s,B3 ts s p=true→skP ts s p=(p.1+1,0):=fun s h=>by unfold skP;rw [c8Y h]
 have hsn:∀s,B3 ts s p=false→skP ts s p=p:=fun s h=>by unfold skP;rw [c8W (by rw [h];decide)]
 obtain ⟨s1,hs1⟩:∃s1,s1=U8 ts (p.1+1,0):=⟨_,rfl⟩
 obtain ⟨s0,hs0⟩:∃s0,s0=U8 ts p:=⟨_,rfl⟩
 obtain ⟨s2,hs2⟩:∃s2,s2=U8 ts (a1A ts l p):=⟨_,rfl⟩
 obtain ⟨W,hW⟩:∃W,W=(r7 ts l p).getD N5:=⟨_,rfl⟩
 unfold G9
 rw [←hs0,←hs2,←hW]
 have hok:∀s,B3 ts s p=true→A7 61 [vs s] (H8 ts) s0 [vb true] s1:=fun s h=>by have h2:=hsk s;unfold G9 at h2;rw [h,hsp s h,←hs0,←hs1] at h2;exact h2
 have hnk:∀s,B3 ts s p=false→A7 61 [vs s] (H8 ts) s0 [vb false] s0:=fun s h=>by have h2:=hsk s;unfold G9 at h2;rw [h,hsn s h,←hs0] at h2;exact h2
 clear hsk
 generalize H8 ts=T at *
 obtain ⟨a0,a1,a2⟩:=s0
 obtain ⟨b0,b1,b2⟩:=s1
 obtain ⟨d0,d1,d2⟩:=s2
 refine N9 Try.func94 rfl ?_;intro qa qb _ _ _ _ _ qi _ _ _ _ _ _ _ _ _ _ _ _ _ _ va vc _ _ _ _ _ _ _ _ _ _ _ _ _ _ _ _ _ vw;intros;rename_i hA
 obtain ⟨e1,e2,e3,e4,e5,e6,e7,e8,e9⟩:=m6 hA
 obtain ⟨r1,r2,r3,r4⟩:=C7 hA
 cbv;refine gn ?_
 refine o7 hA (γ:=Int) (fun x=>[(9,vi .i64 x)]) (fun x=>[]) inv (fun x=>N - x.toNat) 0 hi0 ?_ ?_
 ·cbv
 ·intro z hinv
  cbv;refine gn ?_;try simp only [nc] at *
  rw [hi] at hinv
  obtain ⟨k,hz,hk,hE⟩:=hinv
  replace hz:z=(k:Int):=hz
  have hlt:qi z (va R0)=decide (k<N):=by rw [e7,r1,hlen,hz];exact c9w.2 (by omega)
  by_cases h9:k<N
  ·rw [c9j h9] at hlt
   obtain ⟨x,hx⟩:∃x,l[k]?=some x:=⟨_,c8T (by omega)⟩
   have gx:vc R0 z=some [.sc (.string x)]:=by rw [r2,hz,c8Y (by omega),show ((k:Int)).toNat=k by omega,hgt k x hx]
   have hz1:qa .i64 (qb z 1)=((k+1:Nat):Int):=by rw [e1,e2,hz,IntWalk.i64_in _ (by omega)];omega
   have hmu:N - (qa .i64 (qb z 1)).toNat<N - z.toNat:=by rw [hz1,hz];omega
   have hdr:l.drop k=x::l.drop (k+1):=by
    obtain ⟨hi,e⟩:=c8S.1 hx
    rw [c98 hi,e]
   rw [hdr,r7] at hE
   rw [hlt]
   cases hb:B3 ts x p with
   | true =>
    rw [c8Y hb] at hE
    have h1:=hok x hb
    have hWx:W=x:=by rw [hW,←hE];rfl
    have hs12:((d0,d1,d2):ST)=(b0,b1,b2):=by rw [hs2,hs1,hhit x hE.symm]
    injection hs12 with f0 f1
    injection f1 with f1 f2
    subst f0;subst f1;subst f2
    rw [hWx]
    clear hs2 hs1 hs0 hE hb
    have q0:=gx;have p0:=h1;exact T1
   | false =>
    rw [c8W (by rw [hb];decide)] at hE
    have h1:=hnk x hb
    have hin:inv (qa .i64 (qb z 1)):=by rw [hi];exact ⟨k+1,hz1,by omega,hE⟩
    clear hs2 hs1 hs0 hE hb
    have q0:=gx;have p0:=h1;have hi:=hin;have hm:=hmu;exact T1
  ·rw [c9d h9] at hlt
   rw [c9R (by omega),r7] at hE
   have hWx:W=N5:=by rw [hW,←hE];rfl
   have hs12:((d0,d1,d2):ST)=(a0,a1,a2):=by rw [hs2,hs0,hno hE.symm]
   injection hs12 with f0 f1
   injection f1 with f1 f2
   subst f0;subst f1;subst f2
   rw [hWx,hlt]
   clear hs2 hs1 hs0 hE
   exact T1
end Go.Proofs.Ytahpnackkmbmgaa.Vm
end
