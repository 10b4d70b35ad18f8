/- Part 16 of the proof. Conditions: none. -/
import Derived.Test.YtahpnackkmbmgaaGreatE1
import Derived.Test.YtahpnackkmbmgaaGreatE4
import Derived.Test.YtahpnackkmbmgaaGreatE14
import Derived.Test.YtahpnackkmbmgaaGreatE0
set_option linter.all false
set_option linter.unusedVariables false
set_option linter.unusedSimpArgs false
section
namespace Go.Proofs.YtahpnackkmbmgaaGreat.Vm
open Go.RowKit
set_option maxRecDepth 100000
set_option maxHeartbeats 4000000
structure AtsT (n:Nat) (ts:List Tok):Prop where
 lo:∀i,i<ts.length→0≤(j6 ts i).at_∧(j6 ts i).at_≤n
 up:∀i j,i<j→j<ts.length→(j6 ts i).at_+1≤(j6 ts j).at_
theorem b7F (T:List (List D)) (p z:Int):B0 20 [.ptr 0 0] (eyB 0 p T z) (fun res os=>res=[vb true]∧os=eyB 0 p T z):=by
 unfold eyB
 refine a06 Tryz.func20 rfl (by kernel_rfl) (by kernel_rfl) (by kernel_rfl) rfl ?_;intro _ _ _ _ _ _ _ _ _ qk _ _ _ _ _ _ _ _ _ _ _ _ _ _ _ _ _ _ _ _ _ _ _ _ _ _ _ _ _ _ _ vw;intros;rename_i hA K hK
 obtain ⟨e1,e2,e3,e4,e5,e6,e7,e8,e9⟩:=j7 hA
 have q1:qk 0 0=true:=by rw [e9];rfl
 exact I5
theorem b7G (T:List (List D)) (e p z:Int) (he:e≠0):B0 20 [.ptr 0 0] (eyB e p T z) (fun res os=>res=[vb false]∧os=eyB e p T z):=by
 unfold eyB
 refine a06 Tryz.func20 rfl (by kernel_rfl) (by kernel_rfl) (by kernel_rfl) rfl ?_;intro _ _ _ _ _ _ _ _ _ qk _ _ _ _ _ _ _ _ _ _ _ _ _ _ _ _ _ _ _ _ _ _ _ _ _ _ _ _ _ _ _ vw;intros;rename_i hA K hK
 obtain ⟨e1,e2,e3,e4,e5,e6,e7,e8,e9⟩:=j7 hA
 have q1:qk e 0=false:=by rw [e9];exact d2U he
 exact I5
theorem c2q (ts:List Tok) (t:Tok) (a:Nat) (ht:ts[a]?=some t) (hl:ts.length≤1048576) (e p:Int):B0 29 [.ptr 0 0] (eyB e p (C9 ts) (a:Int)) (fun res os=>res=[vi .i64 t.at_]∧os=eyB e p (C9 ts) (a:Int)):=by
 have hp:=a4i ts t a ht hl
 unfold tkD rdB at hp
 unfold eyB
 generalize C9 ts=T at *
 generalize t.kind=tk at *
 generalize t.text=tx at *
 generalize t.n=tn at *
 generalize t.at_=ta at *
 generalize ((a:Nat):Int)=z at *
 refine a06 Tryz.func29 rfl (by kernel_rfl) (by kernel_rfl) (by kernel_rfl) rfl ?_;intro _ _ _ _ _ _ _ _ _ _ _ _ _ _ _ _ _ _ _ _ _ _ _ _ _ _ _ _ _ _ _ _ _ _ _ _ _ _ _ _ _ vw;intros;rename_i hA K hK
 have r0:=hp;exact I5
def pz0:List V:=[vi .u8 0,vs ⟨#[]⟩,vs ⟨#[]⟩,vi .i64 0,vb false,vi .u8 0,vs ⟨#[]⟩,vi .i64 0,.em,.em,.em]
theorem b0c (ts:List Tok) (t:Tok) (a:Nat) (ht:ts[a]?=some t) (hl:ts.length≤1048576) (c:Int):v8 22 [.ptr 0 0,vi .u8 c] (eyB 0 0 (C9 ts) (a:Int)) (fun res os=>res=[.ag pz0]∧os=eyB c t.at_ (C9 ts) (a:Int)):=by
 have h1:=b7F (C9 ts) 0 (a:Int)
 have h2:=c2q ts t a ht hl 0 0
 unfold eyB at *
 unfold pz0
 generalize C9 ts=T at *
 generalize t.at_=ta at *
 generalize ((a:Nat):Int)=z at *
 refine Z5 Tryz.func22 rfl ?_;intros;rename_i hA
 iterate 2 (try cbv;repeat ((first|with_reducible apply f8 hA|refine rdx hA [0,1] h1 ?_|refine rdx hA [0,1] h2 ?_);cbv))
 try simp (maxSteps:=4000000) only [nc] at *
 exact m9 hA [0,1] ⟨rfl,rfl,rfl,rfl,rfl,rfl,rfl,rfl⟩ ⟨rfl,rfl⟩
theorem b1F (T:List (List D)) (e p z c:Int) (he:e≠0):v8 22 [.ptr 0 0,vi .u8 c] (eyB e p T z) (fun res os=>res=[.ag pz0]∧os=eyB e p T z):=by
 have h1:=b7G T e p z he
 unfold eyB at *
 unfold pz0
 refine Z5 Tryz.func22 rfl ?_;intros;rename_i hA
 iterate 2 (try cbv;repeat ((first|with_reducible apply f8 hA|refine rdx hA [0,1] h1 ?_);cbv))
 try simp (maxSteps:=4000000) only [nc] at *
 exact m9 hA [0,1] ⟨rfl,rfl,rfl,rfl,rfl,rfl,rfl,rfl⟩ ⟨rfl,rfl⟩
theorem b4B (ts:List Tok) (t:Tok) (a:Nat) (ht:ts[a]?=some t) (hl:ts.length≤1048576) (s:ByteArray):v8 28 [.ptr 0 0,vs s] (eyB 0 0 (C9 ts) (a:Int)) (fun res os=>res=[]∧os=if L7 t s=true then eyB 0 0 (C9 ts) ((a+1:Nat):Int) else eyB 5 t.at_ (C9 ts) (a:Int)):=by
 have h1:=b7F (C9 ts) 0 (a:Int)
 have hq:=b2E ts t a ht hl s
 have hf:=b0c ts t a ht hl 5
 unfold rdB at hq
 unfold eyB at *
 unfold pz0 at hf
 generalize C9 ts=T at *
 generalize t.at_=ta at *
 cases hb:L7 t s
 ·rw [hb,d2T (by decide)] at hq
  rw [d2T (by decide)]
  generalize ((a:Nat):Int)=z at *
  refine Z5 Tryz.func28 rfl fun qa qb qc qd qe qg qh qi qj qk ql qm qo qp qq qt qu qv qw qx qy qz va vc vd ve vf vg vh vj vk vl vm vn vo vp vq vr vt vu vv vw vx hA=>?_
  iterate 2 (try cbv;repeat ((first|with_reducible apply f8 hA|refine rdx hA [0,1] h1 ?_|refine A4 hA [1] hq ?_|refine A4 hA [0,1] hf ?_);cbv))
  try simp (maxSteps:=4000000) only [nc] at *
  exact m9 hA [0,1] ⟨rfl,rfl,rfl,rfl,rfl,rfl,rfl,rfl⟩ ⟨rfl,rfl⟩
 ·rw [hb,d2S rfl] at hq
  rw [d2S rfl]
  generalize ((a:Nat):Int)=z at *
  generalize ((a+1:Nat):Int)=y at *
  refine Z5 Tryz.func28 rfl fun qa qb qc qd qe qg qh qi qj qk ql qm qo qp qq qt qu qv qw qx qy qz va vc vd ve vf vg vh vj vk vl vm vn vo vp vq vr vt vu vv vw vx hA=>?_
  iterate 2 (try cbv;repeat ((first|with_reducible apply f8 hA|refine rdx hA [0,1] h1 ?_|refine A4 hA [1] hq ?_);cbv))
  try simp (maxSteps:=4000000) only [nc] at *
  exact m9 hA [0,1] ⟨rfl,rfl,rfl,rfl,rfl,rfl,rfl,rfl⟩ ⟨rfl,rfl⟩
theorem b9g (T:List (List D)) (e p z:Int) (he:e≠0) (s:ByteArray):v8 28 [.ptr 0 0,vs s] (eyB e p T z) (fun res os=>res=[]∧os=eyB e p T z):=by
 have h1:=b7G T e p z he
 unfold eyB at *
 refine Z5 Tryz.func28 rfl ?_;intros;rename_i hA
 iterate 2 (try cbv;repeat ((first|with_reducible apply f8 hA|refine rdx hA [0,1] h1 ?_);cbv))
 try simp (maxSteps:=4000000) only [nc] at *
 exact m9 hA [0,1] ⟨rfl,rfl,rfl,rfl,rfl,rfl,rfl,rfl⟩ ⟨rfl,rfl⟩
theorem b4C (ts:List Tok) (t:Tok) (a:Nat) (ht:ts[a]?=some t) (hl:ts.length≤1048576):v8 30 [.ptr 0 0] (eyB 0 0 (C9 ts) (a:Int)) (fun res os=>res=[vs (if t.kind=1 then t.text else ⟨#[]⟩)]∧os=if t.kind=1 then eyB 0 0 (C9 ts) ((a+1:Nat):Int) else eyB 5 t.at_ (C9 ts) (a:Int)):=by
 have h1:=b7F (C9 ts) 0 (a:Int)
 have hp:=a4i ts t a ht hl
 have hq:=b2D ts t a ht hl
 have hf:=b0c ts t a ht hl 5
 unfold tkD rdB at hp hq
 unfold eyB at *
 unfold pz0 at hf
 generalize C9 ts=T at *
 generalize t.kind=tk at *
 generalize t.text=tx at *
 generalize t.n=tn at *
 generalize t.at_=ta at *
 by_cases hb:tk=1
 ·rw [d2S hb,d2S hb]
  generalize ((a:Nat):Int)=z at *
  generalize ((a+1:Nat):Int)=y at *
  refine Z5 Tryz.func30 rfl fun qa qb qc qd qe qg qh qi qj qk ql qm qo qp qq qt qu qv qw qx qy qz va vc vd ve vf vg vh vj vk vl vm vn vo vp vq vr vt vu vv vw vx hA=>?_
  obtain ⟨e1,e2,e3,e4,e5,e6,e7,e8,e9⟩:=j7 hA
  have q1:qk tk 1=true:=by rw [e9];exact d3a hb
  clear hb
  iterate 2 (try cbv;repeat ((first|with_reducible apply f8 hA|rw [q1]|refine rdx hA [0,1] h1 ?_|refine rdx hA [1] hp ?_|refine A4 hA [1] hq ?_);cbv))
  try simp (maxSteps:=4000000) only [nc] at *
  exact m9 hA [0,1] ⟨rfl,rfl,rfl,rfl,rfl,rfl,rfl,rfl⟩ ⟨rfl,rfl⟩
 ·rw [d2T hb,d2T hb]
  generalize ((a:Nat):Int)=z at *
  refine Z5 Tryz.func30 rfl fun qa qb qc qd qe qg qh qi qj qk ql qm qo qp qq qt qu qv qw qx qy qz va vc vd ve vf vg vh vj vk vl vm vn vo vp vq vr vt vu vv vw vx hA=>?_
  obtain ⟨e1,e2,e3,e4,e5,e6,e7,e8,e9⟩:=j7 hA
  have q1:qk tk 1=false:=by rw [e9];exact d2U hb
  clear hb
  iterate 2 (try cbv;repeat ((first|with_reducible apply f8 hA|rw [q1]|refine rdx hA [0,1] h1 ?_|refine rdx hA [1] hp ?_|refine A4 hA [0,1] hf ?_);cbv))
  try simp (maxSteps:=4000000) only [nc] at *
  exact m9 hA [0,1] ⟨rfl,rfl,rfl,rfl,rfl,rfl,rfl,rfl⟩ ⟨rfl,rfl⟩
theorem b9h (T:List (List D)) (e p z:Int) (he:e≠0):v8 30 [.ptr 0 0] (eyB e p T z) (fun res os=>res=[vs ⟨#[]⟩]∧os=eyB e p T z):=by
 have h1:=b7G T e p z he
 have hf:=b1F T e p z 5 he
 unfold eyB at *
 unfold pz0 at hf
 refine Z5 Tryz.func30 rfl ?_;intros;rename_i hA
 iterate 2 (try cbv;repeat ((first|with_reducible apply f8 hA|refine rdx hA [0,1] h1 ?_|refine A4 hA [0,1] hf ?_);cbv))
 try simp (maxSteps:=4000000) only [nc] at *
 exact m9 hA [0,1] ⟨rfl,rfl,rfl,rfl,rfl,rfl,rfl,rfl⟩ ⟨rfl,rfl⟩

section
abbrev PkN (T:List (List D)) (a k n p:Int) (s:ByteArray):Prop:=B0 21 [.ptr 0 0] [.box [.d (.sl 4 T),vi .i64 a]] (fun res os=>res=[.ag [vi .u8 k,vs s,vi .i64 n,vi .i64 p]]∧os=[.box [.d (.sl 4 T),vi .i64 a]])
abbrev IsN (T:List (List D)) (a:Int) (s:ByteArray) (b:Bool):Prop:=B0 33 [.ptr 0 0,vs s] [.box [.d (.sl 4 T),vi .i64 a]] (fun res os=>res=[vb b]∧os=[.box [.d (.sl 4 T),vi .i64 a]])
abbrev TaN (T:List (List D)) (a k n p a1:Int) (s:ByteArray):Prop:=v8 34 [.ptr 0 0] [.box [.d (.sl 4 T),vi .i64 a]] (fun res os=>res=[.ag [vi .u8 k,vs s,vi .i64 n,vi .i64 p]]∧os=[.box [.d (.sl 4 T),vi .i64 a1]])
abbrev eyZ (e p:Int) (T:List (List D)) (a:Int):List O:=[.box [.ptr 1 0,vi .u8 e,vi .i64 p],.box [.d (.sl 4 T),vi .i64 a]]
abbrev WtN (T:List (List D)) (s:ByteArray) (e p a e1 p1 a1:Int):Prop:=v8 28 [.ptr 0 0,vs s] (eyZ e p T a) (fun res os=>res=[]∧os=eyZ e1 p1 T a1)
abbrev WoN (T:List (List D)) (s:ByteArray) (e p a e1 p1 a1:Int):Prop:=v8 30 [.ptr 0 0] (eyZ e p T a) (fun res os=>res=[vs s]∧os=eyZ e1 p1 T a1)
abbrev HeN (T:List (List D)) (e p a q:Int):Prop:=B0 29 [.ptr 0 0] (eyZ e p T a) (fun res os=>res=[vi .i64 q]∧os=eyZ e p T a)
abbrev OkN (T:List (List D)) (e p a:Int) (b:Bool):Prop:=B0 20 [.ptr 0 0] (eyZ e p T a) (fun res os=>res=[vb b]∧os=eyZ e p T a)
section
variable {ts:List Tok} (hl:ts.length≤1048576)
include hl
theorem c2r {a:Nat} (ha:a<ts.length):PkN (C9 ts) (a:Int) (j6 ts a).kind (j6 ts a).n (j6 ts a).at_ (j6 ts a).text:=a4i ts (j6 ts a) a (P4 ha) hl
theorem c5L {a:Nat} (ha:a<ts.length) (s:ByteArray):IsN (C9 ts) (a:Int) s (L7 (j6 ts a) s):=c9k ts (j6 ts a) a (P4 ha) hl s
theorem c9P {a:Nat} (ha:a<ts.length):TaN (C9 ts) (a:Int) (j6 ts a).kind (j6 ts a).n (j6 ts a).at_ ((a+1:Nat):Int) (j6 ts a).text:=b2D ts (j6 ts a) a (P4 ha) hl
theorem d1P {a:Nat} (ha:a<ts.length) {s:ByteArray} (h:L7 (j6 ts a) s=true):WtN (C9 ts) s 0 0 (a:Int) 0 0 ((a+1:Nat):Int):=by
 have:=b4B ts (j6 ts a) a (P4 ha) hl s
 rw [d2S h] at this
 exact this
theorem d1Q {a:Nat} (ha:a<ts.length) {s:ByteArray} (h:L7 (j6 ts a) s=false):WtN (C9 ts) s 0 0 (a:Int) 5 (j6 ts a).at_ (a:Int):=by
 have:=b4B ts (j6 ts a) a (P4 ha) hl s
 rw [d2T (by rw [h];decide)] at this
 exact this
theorem d1R {a:Nat} (ha:a<ts.length) (h:(j6 ts a).kind=1):WoN (C9 ts) (j6 ts a).text 0 0 (a:Int) 0 0 ((a+1:Nat):Int):=by
 have:=b4C ts (j6 ts a) a (P4 ha) hl
 rw [d2S h,d2S h] at this
 exact this
theorem d1S {a:Nat} (ha:a<ts.length) (h:(j6 ts a).kind≠1):WoN (C9 ts) ⟨#[]⟩ 0 0 (a:Int) 5 (j6 ts a).at_ (a:Int):=by
 have:=b4C ts (j6 ts a) a (P4 ha) hl
 rw [d2T h,d2T h] at this
 exact this
theorem c9Q {a:Nat} (ha:a<ts.length) (e p:Int):HeN (C9 ts) e p (a:Int) (j6 ts a).at_:=c2q ts (j6 ts a) a (P4 ha) hl e p
end
theorem d1T (T:List (List D)) (s:ByteArray) (e p a:Int) (he:e≠0):WtN T s e p a e p a:=b9g T e p a he s
theorem d1U (T:List (List D)) (e p a:Int) (he:e≠0):WoN T ⟨#[]⟩ e p a e p a:=b9h T e p a he
theorem d1V (T:List (List D)) (p a:Int):OkN T 0 p a true:=b7F T p a
theorem d1W (T:List (List D)) (e p a:Int) (he:e≠0):OkN T e p a false:=b7G T e p a he
end
section
abbrev ST:=Int×Int×Int
abbrev eyT (T:List (List D)) (s:ST):List O:=eyZ s.1 s.2.1 T s.2.2
abbrev C5 (f:Nat) (vs:List V) (T:List (List D)) (s:ST) (r:List V) (s1:ST):Prop:=v8 f (.ptr 0 0::vs) (eyT T s) (fun res os=>res=r∧os=eyT T s1)
abbrev cE (x:Nat→D):List D:=[x 0,x 1,x 2,x 3,x 4,x 5,x 6,x 7,x 8,x 9,x 10]
abbrev c4 (x:Nat→D):List D:=[x 0,x 1,x 2,x 3]
theorem C2 (p:PL):∃x,cP p=cE x:=by
 obtain ⟨d0,d1,d2,d3,d4,d5,d6,d7,d8,d9,h⟩:=a4v p.1
 exact ⟨fun i=>match i with|0=>d0|1=>d1|2=>d2|3=>d3|4=>d4|5=>d5|6=>d6|7=>d7|8=>d8|9=>d9|_=>.sl 1 (rZ p.2),by unfold cP;rw [h];rfl⟩
theorem a6E (t:Ty):∃x,cT t=c4 x:=by
 obtain ⟨d0,d1,d2,d3,h⟩:=l8 t
 exact ⟨fun i=>match i with|0=>d0|1=>d1|2=>d2|_=>d3,h⟩
theorem B0.o {f:Nat} {vs:List V} {os:List O} {Q:List V→List O→Prop} (h:B0 f vs os Q):v8 f vs os Q :=
 ⟨h.1,fun I w g args hr=>(h.2 I w g args hr).mono fun e w' ⟨us,res,os2,I',g',e1,⟨e2,_⟩,e3⟩=>⟨us,res,os2,I',g',e1,e2,e3⟩⟩
section
variable {T:List (List D)} {s s1 s2:ST} {L:Int}
theorem c4A (h1:C5 20 [] T s [vb true] s) (hL:L≤200):C5 43 [vi .i64 L] T s [vb false] s:=by
 obtain ⟨_,_,_⟩:=s
 refine Z5 Tryz.func43 rfl ?_;intro _ _ _ _ _ _ _ qi _ _ _ _ _ _ _ _ _ _ _ _ _ _ _ _ _ _ _ _ _ _ _ _ _ _ _ _ _ _ _ _ _ vw;intros;rename_i hA
 obtain ⟨e1,e2,e3,e4,e5,e6,e7,e8,e9⟩:=j7 hA
 have q:qi 200 L=false:=by rw [e7];exact d2U (by omega)
 have q0:=q;have p0:=h1;exact I5
theorem c2s (h1:C5 20 [] T s [vb false] s):C5 43 [vi .i64 L] T s [vb true] s:=by
 obtain ⟨_,_,_⟩:=s
 refine Z5 Tryz.func43 rfl ?_;intro _ _ _ _ _ _ _ _ _ _ _ _ _ _ _ _ _ _ _ _ _ _ _ _ _ _ _ _ _ _ _ _ _ _ _ _ _ _ _ _ _ vw;intros;rename_i hA
 have p0:=h1;exact I5
theorem c2t (h1:C5 20 [] T s [vb true] s) (h2:C5 22 [vi .u8 6] T s [.ag pz0] s1) (h3:C5 20 [] T s1 [vb false] s1) (hL:200<L):C5 43 [vi .i64 L] T s [vb true] s1:=by
 obtain ⟨_,_,_⟩:=s
 obtain ⟨_,_,_⟩:=s1
 unfold pz0 at h2
 refine Z5 Tryz.func43 rfl ?_;intro _ _ _ _ _ _ _ qi _ _ _ _ _ _ _ _ _ _ _ _ _ _ _ _ _ _ _ _ _ _ _ _ _ _ _ _ _ _ _ _ _ vw;intros;rename_i hA
 obtain ⟨e1,e2,e3,e4,e5,e6,e7,e8,e9⟩:=j7 hA
 have q:qi 200 L=true:=by rw [e7];exact d3a (by omega)
 have q0:=q;have p0:=h1;have p1:=h2;have p2:=h3;exact I5
end
end
section
def stP (ts:List Tok) (p:PE):ST:=(p.2,if p.2=0 then 0 else (j6 ts p.1).at_,(p.1:Int))
theorem c7x (ts:List Tok) (a:Nat):stP ts (a,0)=(0,0,(a:Int)):=rfl
theorem b0d (ts:List Tok) (a:Nat) (c:Int) (h:c≠0):stP ts (a,c)=(c,(j6 ts a).at_,(a:Int)):=by unfold stP;rw [d2T h]
def i9 (ts:List Tok) (p:PE):ByteArray×PE:=if p.2=0∧(j6 ts p.1).kind=1 then ((j6 ts p.1).text,(p.1+1,0)) else (F8,E7 5 p)
def n8 (ts:List Tok):List ByteArray→PE→Option ByteArray
 | [],_=>none
 | s::l,p=>if A2 ts s p=true then some s else n8 ts l p
def a24 (ts:List Tok) (l:List ByteArray) (p:PE):PE:=match n8 ts l p with|some _=>(p.1+1,0)|none=>p
def K6 (n:Nat) (p:PE):PE:=if n=0 then E7 6 p else p
abbrev L3 (f:Nat) (vs:List V) (ts:List Tok) (p:PE) (r:List V) (q:PE):Prop:=C5 f vs (C9 ts) (stP ts p) r (stP ts q)
section
variable {ts:List Tok} (hl:ts.length≤1048576) {p:PE} (hp:p.1<ts.length)
include hl hp
theorem okP:L3 20 [] ts p [vb (p.2 == 0)] p:=by
 obtain ⟨a,c⟩:=p
 by_cases h:c=0
 ·subst h
  exact (d1V (C9 ts) 0 (a:Int)).o
 ·unfold L3
  rw [b0d ts a c h,show (((a,c):PE).2 == 0)=false from d2Y h]
  exact (d1W (C9 ts) c (j6 ts a).at_ (a:Int) h).o
theorem a5o:L3 29 [] ts p [vi .i64 (j6 ts p.1).at_] p:=(c9Q hl hp _ _).o
theorem b6i (c:Int) (hc:c≠0):L3 22 [vi .u8 c] ts p [.ag pz0] (E7 c p):=by
 obtain ⟨a,e⟩:=p
 unfold E7
 by_cases h:e=0
 ·subst h
  rw [d2T (fun h=>h rfl)]
  unfold L3
  rw [b0d ts a c hc]
  exact b0c ts (j6 ts a) a (P4 hp) hl c
 ·rw [d2S h]
  unfold L3
  rw [b0d ts a e h]
  exact b1F (C9 ts) e (j6 ts a).at_ (a:Int) c h
theorem N1 (s:ByteArray):L3 28 [vs s] ts p [] (j0 ts s p):=by
 obtain ⟨a,e⟩:=p
 unfold j0
 by_cases h:e=0
 ·subst h
  rw [d2T (fun h=>h rfl)]
  unfold L3
  by_cases hg:L7 (j6 ts a) s=true
  ·rw [d2S hg]
   exact d1P hl hp hg
  ·rw [d2T hg,b0d ts _ 5 (by decide)]
   exact d1Q hl hp (by simpa using hg)
 ·rw [d2S h]
  unfold L3
  rw [b0d ts a e h]
  exact d1T (C9 ts) s e (j6 ts a).at_ (a:Int) h
theorem a1I:L3 30 [] ts p [vs (i9 ts p).1] (i9 ts p).2:=by
 obtain ⟨a,e⟩:=p
 unfold i9 E7
 by_cases h:e=0
 ·subst h
  unfold L3
  by_cases hg:(j6 ts a).kind=1
  ·rw [d2S ⟨rfl,hg⟩]
   exact d1R hl hp hg
  ·rw [d2T (fun h=>hg h.2),d2T (fun h=>h rfl),b0d ts _ 5 (by decide)]
   exact d1S hl hp hg
 ·rw [d2T (fun hh=>h hh.1),d2S h]
  unfold L3
  rw [b0d ts a e h]
  exact d1U (C9 ts) e (j6 ts a).at_ (a:Int) h
end
section
variable {T:List (List D)} {s s1:ST} {x:ByteArray}
theorem b9i (h1:C5 20 [] T s [vb false] s):C5 44 [vs x] T s [vb false] s:=by
 obtain ⟨_,_,_⟩:=s
 refine Z5 Tryz.func44 rfl ?_;intro _ _ _ _ _ _ _ _ _ _ _ _ _ _ _ _ _ _ _ _ _ _ _ _ _ _ _ _ _ _ _ _ _ _ _ _ _ _ _ _ _ vw;intros;rename_i hA
 have p0:=h1;exact I5
theorem b4D {b:Bool} {e q a a1:Int} (h1:C5 20 [] T (e,q,a) [vb true] (e,q,a)) (h2:v8 59 [.ptr 0 0,vs x] [.box [.d (.sl 4 T),vi .i64 a]] (fun res os=>res=[vb b]∧os=[.box [.d (.sl 4 T),vi .i64 a1]])):C5 44 [vs x] T (e,q,a) [vb b] (e,q,a1):=by
 refine Z5 Tryz.func44 rfl ?_;intros;rename_i hA
 iterate 2 (try cbv;repeat ((first|with_reducible apply f8 hA|refine A4 hA [0,1] h1 ?_|refine A4 hA [1] h2 ?_);cbv))
 try simp (maxSteps:=4000000) only [nc] at *
 exact m9 hA [0,1] ⟨rfl,rfl,rfl,rfl,rfl,rfl,rfl,rfl⟩ ⟨rfl,rfl⟩
end
section
variable {ts:List Tok} (hl:ts.length≤1048576) {p:PE} (hp:p.1<ts.length)
include hl hp
theorem a0E (s:ByteArray):L3 44 [vs s] ts p [vb (A2 ts s p)] (skP ts s p):=by
 have h1:=okP hl hp
 obtain ⟨a,e⟩:=p
 unfold skP A2
 by_cases h:e=0
 ·subst h
  have h2:=b2E ts (j6 ts a) a (P4 hp) hl s
  unfold rdB at h2
  unfold L3 at h1 ⊢
  rw [show (((a,(0:Int)):PE).2 == 0)=true from rfl] at h1 ⊢
  rw [d44]
  by_cases hg:L7 (j6 ts a) s=true
  ·rw [d2S hg] at h2 ⊢
   exact b4D h1 h2
  ·rw [d2T hg] at h2 ⊢
   exact b4D h1 h2
 ·unfold L3 at h1 ⊢
  rw [show (((a,e):PE).2 == 0)=false from d2Y h] at h1 ⊢
  rw [d5b,d2T (by decide)]
  exact b9i h1
theorem b3b {n:Nat} {L:Int} (hn:n=0∧200<L∨n≠0∧L≤200):L3 43 [vi .i64 L] ts p [vb (!((K6 n p).2 == 0))] (K6 n p):=by
 have h1:=okP hl hp
 have h2:=b6i hl hp 6 (by decide)
 have h3:=okP hl (p:=E7 6 p) (by rw [(G2 6 (by decide) p).1];exact hp)
 have h6:=(G2 6 (by decide) p).2
 unfold K6
 unfold L3 at h1 h2 h3 ⊢
 by_cases h:p.2=0
 ·rw [show (p.2 == 0)=true by rw [h];rfl] at h1
  rcases hn with ⟨hn,hL⟩|⟨hn,hL⟩
  ·rw [d2S hn]
   rw [d2Y h6] at h3 ⊢
   exact c2t h1 h2 h3 hL
  ·rw [d2T hn,show (p.2 == 0)=true by rw [h];rfl]
   exact c4A h1 hL
 ·rw [d2Y h] at h1
  have e:(if n=0 then E7 6 p else p)=p:=by
   split
   ·unfold E7;rw [d2S h]
   ·rfl
  rw [e,d2Y h]
  exact c2s h1
end
def rSt (l:List ByteArray):List (List D):=l.map fun s=>[.sc (.string s)]
end
theorem c4C {l:List ByteArray} {k:Nat} {s:ByteArray} (h:l[k]?=some s):(rSt l)[k]?=some [.sc (.string s)]:=by unfold rSt;rw [d3u,h];rfl
def d1X (ts:List Tok) (l:List ByteArray) (p:PE) (z:Int):Prop:=∃k:Nat,z=(k:Int)∧k≤l.length∧n8 ts (l.drop k) p=n8 ts l p
theorem b0e {ts:List Tok} (hl:ts.length≤1048576) {p:PE} (hp:p.1<ts.length) (l:List ByteArray) (hn:l.length≤100):L3 82 [.d (.sl 1 (rSt l))] ts p [vs ((n8 ts l p).getD F8)] (a24 ts l p):=by
 have hsk:=fun s=>a0E hl hp s
 obtain ⟨N,hN⟩:∃N,N=l.length:=⟨_,rfl⟩
 rw [←hN] at hn
 have hlen:(rSt l).length=N:=by unfold rSt;rw [d3o,hN]
 have hgt:∀(k:Nat) (s:ByteArray),l[k]?=some s→(rSt l)[k]?=some [.sc (.string s)]:=fun k s h=>c4C h
 generalize rSt l=R0 at *
 obtain ⟨inv,hi⟩:∃inv,inv=d1X ts l p:=⟨_,rfl⟩
 have hi0:inv 0:=by rw [hi];exact ⟨0,rfl,d3t _,by rw [d4g]⟩
 have hhit:∀s,n8 ts l p=some s→a24 ts l p=(p.1+1,0):=fun s h=>by unfold a24;rw [h]
 have hno:n8 ts l p=none→a24 ts l p=p:=fun h=>by unfold a24;rw [h]
 have hsp:∀s,A2 ts s p=true→skP ts s p=(p.1+1,0):=fun s h=>by unfold skP;rw [d2S h]
 have hsn:∀s,A2 ts s p=false→skP ts s p=p:=fun s h=>by unfold skP;rw [d2T (by rw [h];decide)]
 obtain ⟨s1,hs1⟩:∃s1,s1=stP ts (p.1+1,0):=⟨_,rfl⟩
 obtain ⟨s0,hs0⟩:∃s0,s0=stP ts p:=⟨_,rfl⟩
 obtain ⟨s2,hs2⟩:∃s2,s2=stP ts (a24 ts l p):=⟨_,rfl⟩
 obtain ⟨W,hW⟩:∃W,W=(n8 ts l p).getD F8:=⟨_,rfl⟩
 unfold L3
 rw [←hs0,←hs2,←hW]
 have hok:∀s,A2 ts s p=true→C5 44 [vs s] (C9 ts) s0 [vb true] s1:=fun s h=>by have h2:=hsk s;unfold L3 at h2;rw [h,hsp s h,←hs0,←hs1] at h2;exact h2
 have hnk:∀s,A2 ts s p=false→C5 44 [vs s] (C9 ts) s0 [vb false] s0:=fun s h=>by have h2:=hsk s;unfold L3 at h2;rw [h,hsn s h,←hs0] at h2;exact h2
 clear hsk
 generalize C9 ts=T at *
 obtain ⟨a0,a1,a2⟩:=s0
 obtain ⟨b0,b1,b2⟩:=s1
 obtain ⟨d0,d1,d2⟩:=s2
 refine Z5 Tryz.func82 rfl ?_;intro qa qb _ _ _ _ _ qi _ _ _ _ _ _ _ _ _ _ _ _ _ _ va vc _ _ _ _ _ _ _ _ _ _ _ _ _ _ _ _ _ vw;intros;rename_i hA
 obtain ⟨e1,e2,e3,e4,e5,e6,e7,e8,e9⟩:=j7 hA
 obtain ⟨r1,r2,r3,r4⟩:=A8 hA
 cbv;refine gn ?_
 refine j9 hA (γ:=Int) (fun x=>[(9,vi .i64 x)]) (fun x=>[]) inv (fun x=>N - x.toNat) 0 hi0 ?_ ?_
 ·cbv
 ·intro z hinv
  cbv;refine gn ?_;try simp only [nc] at *
  rw [hi] at hinv
  obtain ⟨k,hz,hk,hE⟩:=hinv
  replace hz:z=(k:Int):=hz
  have hlt:qi z (va R0)=decide (k<N):=by rw [e7,r1,hlen,hz];exact d3l.2 (by omega)
  by_cases h9:k<N
  ·rw [d3a h9] at hlt
   obtain ⟨x,hx⟩:∃x,l[k]?=some x:=⟨_,d2P (by omega)⟩
   have gx:vc R0 z=some [.sc (.string x)]:=by rw [r2,hz,d2S (by omega),show ((k:Int)).toNat=k by omega,hgt k x hx]
   have hz1:qa .i64 (qb z 1)=((k+1:Nat):Int):=by rw [e1,e2,hz,IntWalk.i64_in _ (by omega)];omega
   have hmu:N - (qa .i64 (qb z 1)).toNat<N - z.toNat:=by rw [hz1,hz];omega
   have hdr:l.drop k=x::l.drop (k+1):=by
    obtain ⟨hi,e⟩:=d2Q.1 hx
    rw [d3r hi,e]
   rw [hdr,n8] at hE
   rw [hlt]
   cases hb:A2 ts x p with
   | true =>
    rw [d2S hb] at hE
    have h1:=hok x hb
    have hWx:W=x:=by rw [hW,←hE];rfl
    have hs12:((d0,d1,d2):ST)=(b0,b1,b2):=by rw [hs2,hs1,hhit x hE.symm]
    injection hs12 with f0 f1
    injection f1 with f1 f2
    subst f0;subst f1;subst f2
    rw [hWx]
    clear hs2 hs1 hs0 hE hb
    have q0:=gx;have p0:=h1;exact I5
   | false =>
    rw [d2T (by rw [hb];decide)] at hE
    have h1:=hnk x hb
    have hin:inv (qa .i64 (qb z 1)):=by rw [hi];exact ⟨k+1,hz1,by omega,hE⟩
    clear hs2 hs1 hs0 hE hb
    have q0:=gx;have p0:=h1;have hi:=hin;have hm:=hmu;exact I5
  ·rw [d2U h9] at hlt
   rw [d3A (by omega),n8] at hE
   have hWx:W=F8:=by rw [hW,←hE];rfl
   have hs12:((d0,d1,d2):ST)=(a0,a1,a2):=by rw [hs2,hs0,hno hE.symm]
   injection hs12 with f0 f1
   injection f1 with f1 f2
   subst f0;subst f1;subst f2
   rw [hWx,hlt]
   clear hs2 hs1 hs0 hE
   exact I5
end Go.Proofs.YtahpnackkmbmgaaGreat.Vm
end
