/- Part 22 of the proof. Conditions: none. -/
import Derived.Test.YtncijebklnbhlaaGreatDoorQ4
import Derived.Test.YtncijebklnbhlaaGreatDoorQ8
import Derived.Test.YtncijebklnbhlaaGreatDoorQ13
import Derived.Test.YtncijebklnbhlaaGreatDoorQ19
import Derived.Test.YtncijebklnbhlaaGreatDoorQ20
import Derived.Test.YtncijebklnbhlaaGreatDoorQ21
set_option linter.all false
set_option linter.unusedVariables false
set_option linter.unusedSimpArgs false
section
namespace Go.Proofs.YtncijebklnbhlaaGreatDoor.Vm
open Go.RowKit
set_option maxRecDepth 100000
set_option maxHeartbeats 4000000
theorem b8w (t:Tm) (hN:(l4 t).length<=1048576) (hS:∀x∈l4 t,SmT x):j5 11 [.ag (cM t)] [.one (.sc (.bool (rtM GA false t)))]:=by
 have h0:=b3W t hN hS false;generalize rtM GA false t=b at *;obtain⟨d0,d1,d2,d3,d4,d5,d6,d7,d8,d9,hd⟩:=W9 t;rw[hd] at h0 ⊢;refine C2 Tryz.func11 rfl ?_;intros;rename_i hA;cbv;exact fr
theorem c1e (t:Tm) (hN:(l4 t).length<=1048576) (hS:∀x∈l4 t,SmT x) (h:rtM GA false t=false):j5 6 [.ag (cM t)] [.one (.sc (.string ⟨⟨[]⟩⟩)),.one (.sc (.int .u8 15))]:=by
 have h0:=b8w t hN hS;rw[h] at h0;obtain⟨d0,d1,d2,d3,d4,d5,d6,d7,d8,d9,hd⟩:=W9 t;rw[hd] at h0 ⊢;refine C2 Tryz.func6 rfl ?_;intros;rename_i hA;cbv;exact fr
theorem c1f (t:Tm) (s:ByteArray) (hN:(l4 t).length<=1048576) (hS:∀x∈l4 t,SmT x) (h:rtM GA false t=true) (h1:j5 12 [.ag (cM t)] [.one (.sc (.string s))]):j5 6 [.ag (cM t)] [.one (.sc (.string s)),.one (.sc (.int .u8 0))]:=by
 have h0:=b8w t hN hS;rw[h] at h0;obtain⟨d0,d1,d2,d3,d4,d5,d6,d7,d8,d9,hd⟩:=W9 t;rw[hd] at h0 h1 ⊢;refine C2 Tryz.func6 rfl ?_;intros;rename_i hA;cbv;exact fr
def zTy:Ty:=.mk 0 ⟨⟨[]⟩⟩ 0 []
def nL (op:Int) (nm:ByteArray) (n:Int) (ks:List Tm):Tm:=.mk op nm ⟨⟨[]⟩⟩ n false zTy ks
def tf:Tm:=nL 32 ⟨⟨[102]⟩⟩ 0 []
def tx:Tm:=nL 32 ⟨⟨[120]⟩⟩ 0 []
def tfx:Tm:=nL 37 ⟨⟨[]⟩⟩ 0 [tf,tx]
def t1:Tm:=nL 33 ⟨⟨[]⟩⟩ 1 []
def t2:Tm:=nL 33 ⟨⟨[]⟩⟩ 2 []
def t12:Tm:=nL 40 ⟨⟨[42]⟩⟩ 0 [t1,t2]
def tal:Tm:=nL 40 ⟨⟨[43]⟩⟩ 0 [tfx,t12]
def gd (t:Tm):Nat->D:=λk=>(cM t).getD k (.sc .nilIface)
theorem b6k (t:Tm):cM t=tC (gd t):=by
 unfold gd;obtain⟨d0,d1,d2,d3,d4,d5,d6,d7,d8,d9,hd⟩:=W9 t;rw[hd];rfl
theorem a4I (a b:Tm):(rM [a,b])[0]?=some (tC (gd a))/\(rM [a,b])[1]?=some (tC (gd b)):=⟨by rw[B4 (t:=a) rfl,b6k],by rw[B4 (t:=b) rfl,b6k]⟩
theorem a8e {op:Int} {nm:ByteArray} {n r:Int} {ks:List Tm} {X Y:ByteArray} (h:j5 12 [.ag (cM (nL op nm n ks))] [.one (.sc (.string X))]) (hX:Fz X) (hY:atB (rkM op nm) r X=Y):j5 27 [.ag (tC (gd (nL op nm n ks))),.one (.sc (.int .i64 r))] [.one (.sc (.string Y))]:=by
 rw[<-b6k,<-hY];exact b8s h hX
theorem b9L:j5 12 [.ag (cM tal)] [.one (.sc (.string ⟨⟨[102,32,120,32,43,32,49,32,42,32,50]⟩⟩))]:=by
 have fz:∀s:ByteArray,s.size<=100->Fz s:=λs h=>by unfold Fz;omega
 have i1:(⟨(Lib.itoa 1).toArray⟩:ByteArray)=⟨⟨[49]⟩⟩:=by rw[a1e (by omega) (by omega)];rfl
 have i2:(⟨(Lib.itoa 2).toArray⟩:ByteArray)=⟨⟨[50]⟩⟩:=by rw[a1e (by omega) (by omega)];rfl
 have a1:j5 12 [.ag (cM tf)] [.one (.sc (.string ⟨⟨[102]⟩⟩))]:=b96;have a2:j5 12 [.ag (cM tx)] [.one (.sc (.string ⟨⟨[120]⟩⟩))]:=b96;have f1:=b1t 1 (by omega) (by omega);have f2:=b1t 2 (by omega) (by omega);rw[i1] at f1;rw[i2] at f2;have a3:j5 12 [.ag (cM t1)] [.one (.sc (.string ⟨⟨[49]⟩⟩))]:=b97 f1;have a4:j5 12 [.ag (cM t2)] [.one (.sc (.string ⟨⟨[50]⟩⟩))]:=b97 f2;have a5:j5 12 [.ag (cM tfx)] [.one (.sc (.string ⟨⟨[102,32,120]⟩⟩))]:=c0Y (K:=rM [tf,tx]) (a4I tf tx).1 (a4I tf tx).2 (a8e (r:=3) (Y:=⟨⟨[102]⟩⟩) a1 (fz _ (by decide)) (by kernel_rfl)) (fz _ (by decide)) (a8e (r:=4) (Y:=⟨⟨[120]⟩⟩) a2 (fz _ (by decide)) (by kernel_rfl)) (fz _ (by decide));have a6:j5 12 [.ag (cM t12)] [.one (.sc (.string ⟨⟨[49,32,42,32,50]⟩⟩))]:=b98 (b5S (K:=rM [t1,t2]) (l:=2) (r:=2) (by kernel_rfl) rfl (a4I t1 t2).1 (a4I t1 t2).2 (a8e (r:=2) (Y:=⟨⟨[49]⟩⟩) a3 (fz _ (by decide)) (by kernel_rfl)) (a8e (r:=2+1) (Y:=⟨⟨[50]⟩⟩) a4 (fz _ (by decide)) (by kernel_rfl)) (fz _ (by decide)) (fz _ (by decide)) (fz _ (by decide))) (fz _ (by decide));exact b98 (b5S (K:=rM [tfx,t12]) (l:=1) (r:=1) (by kernel_rfl) rfl (a4I tfx t12).1 (a4I tfx t12).2 (a8e (r:=1) (Y:=⟨⟨[102,32,120]⟩⟩) a5 (fz _ (by decide)) (by kernel_rfl)) (a8e (r:=1+1) (Y:=⟨⟨[49,32,42,32,50]⟩⟩) a6 (fz _ (by decide)) (by kernel_rfl)) (fz _ (by decide)) (fz _ (by decide)) (fz _ (by decide))) (fz _ (by decide))
def cal:List D:=[.sc (.int .u8 40),.sc (.string ⟨#[43]⟩),.sc (.string ⟨#[]⟩),.sc (.int .i64 0),.sc (.bool false),.sc (.int .u8 0),.sc (.string ⟨#[]⟩),.sc (.int .i64 0),.sl 4 [],.sl 10 [[.sc (.int .u8 37),.sc (.string ⟨#[]⟩),.sc (.string ⟨#[]⟩),.sc (.int .i64 0),.sc (.bool false),.sc (.int .u8 0),.sc (.string ⟨#[]⟩),.sc (.int .i64 0),.sl 4 [],.sl 10 [[.sc (.int .u8 32),.sc (.string ⟨#[102]⟩),.sc (.string ⟨#[]⟩),.sc (.int .i64 0),.sc (.bool false),.sc (.int .u8 0),.sc (.string ⟨#[]⟩),.sc (.int .i64 0),.sl 4 [],.sl 10 []],[.sc (.int .u8 32),.sc (.string ⟨#[120]⟩),.sc (.string ⟨#[]⟩),.sc (.int .i64 0),.sc (.bool false),.sc (.int .u8 0),.sc (.string ⟨#[]⟩),.sc (.int .i64 0),.sl 4 [],.sl 10 []]]],[.sc (.int .u8 40),.sc (.string ⟨#[42]⟩),.sc (.string ⟨#[]⟩),.sc (.int .i64 0),.sc (.bool false),.sc (.int .u8 0),.sc (.string ⟨#[]⟩),.sc (.int .i64 0),.sl 4 [],.sl 10 [[.sc (.int .u8 33),.sc (.string ⟨#[]⟩),.sc (.string ⟨#[]⟩),.sc (.int .i64 1),.sc (.bool false),.sc (.int .u8 0),.sc (.string ⟨#[]⟩),.sc (.int .i64 0),.sl 4 [],.sl 10 []],[.sc (.int .u8 33),.sc (.string ⟨#[]⟩),.sc (.string ⟨#[]⟩),.sc (.int .i64 2),.sc (.bool false),.sc (.int .u8 0),.sc (.string ⟨#[]⟩),.sc (.int .i64 0),.sl 4 [],.sl 10 []]]]]]
theorem b9M:cM tal=cal:=by kernel_rfl
theorem a8f:l4 tal=[tal,tfx,tf,tx,t12,t1,t2]:=by kernel_rfl
theorem c21:Sm zTy:=by
 refine⟨by decide,λx hx=>?_⟩;have:x=zTy:=by simpa [zTy,Ty.parts,v8] using hx
 rw[this];show (⟨⟨[]⟩⟩:ByteArray).size<=_;rw[U0];exact Nat.zero_le _
theorem b9N:∀x∈l4 tal,SmT x:=by
 rw[a8f];intro x hx;simp only[List.mem_cons,List.not_mem_nil,or_false] at hx
 rcases hx with rfl|rfl|rfl|rfl|rfl|rfl|rfl <;> exact⟨c21,by decide,by decide⟩
theorem b9O:j5 6 [.ag cal] [.one (.sc (.string ⟨⟨[102,32,120,32,43,32,49,32,42,32,50]⟩⟩)),.one (.sc (.int .u8 0))]:=by
 have h:=c1f tal _ (by rw[a8f];decide) b9N (by kernel_rfl) b9L;rw[b9M] at h;exact h
mutual
inductive NL:D->D->Prop
 | refl (d:D):NL d d
 | nil (z z':Nat):NL (.sl z []) (.sl z' [])
 | sl (z:Nat) (r:List D) (r':List D) (rows rows':List (List D)):NLs r r'->NLr rows rows'->NL (.sl z (r::rows)) (.sl z (r'::rows'))
inductive NLs:List D->List D->Prop
 | nil:NLs [] []
 | cons (d d':D) (l l':List D):NL d d'->NLs l l'->NLs (d::l) (d'::l')
inductive NLr:List (List D)->List (List D)->Prop
 | nil:NLr [] []
 | cons (r r':List D) (l l':List (List D)):NLs r r'->NLr l l'->NLr (r::l) (r'::l')
end
theorem NLs.len:∀ {l l':List D},NLs l l'->l.length=l'.length
 | _,_,.nil=>rfl
 | _,_,.cons d d' l l' _ h=>by rw[List.length_cons,List.length_cons,h.len]
theorem NLr.len:∀ {l l':List (List D)},NLr l l'->l.length=l'.length
 | _,_,.nil=>rfl
 | _,_,.cons r r' l l' _ h=>by rw[List.length_cons,List.length_cons,h.len]
theorem NLr.lens {z:Nat}:∀ {l l':List (List D)},NLr l l'->(∀r∈l,r.length=z)->∀r∈l',r.length=z
 | _,_,.nil,_=>λr hr=>by cases hr
 | _,_,.cons r r' l l' h1 h2,h=>λx hx=>by
  rcases List.mem_cons.1 hx with rfl|hx
  ·rw[<-h1.len];exact h r (List.mem_cons_self ..)
  ·exact h2.lens (λy hy=>h y (List.mem_cons_of_mem _ hy)) x hx
theorem NLs.app:∀ {l l':List D} {m m':List D},NLs l l'->NLs m m'->NLs (l++m) (l'++m')
 | _,_,_,_,.nil,h=>h
 | _,_,_,_,.cons d d' l l' h1 h2,h=>.cons d d' _ _ h1 (h2.app h)
theorem b9P {I:Nat->Nat->Prop} {w:World} {v:Value} {z z':Nat} (h:AtD I w v (.sl z [])):AtD I w v (.sl z' []):=by
 cases h with
 | nil A cap=>exact .nil A cap z'
 | sl b off cap _ _ us hcap hI hr hl hc hd=>exact .nil _ cap z'
mutual
theorem NL.at {I:Nat->Nat->Prop} {w:World}:∀ {d d':D},NL d d'->∀v,AtD I w v d->AtD I w v d'
 | _,_,.refl d,v,h=>h
 | _,_,.nil z z',v,h=>b9P h
 | _,_,.sl z r r' rows rows' h1 h2,v,h=>by
  cases h with
  | sl b off cap _ _ us hcap hI hr hl hc hd =>
   have e1:=h1.len;have e2:=h2.len;have el:(r::rows).length=(r'::rows').length:=by rw[List.length_cons,List.length_cons,e2]
   rw[el] at hcap hI hl ⊢;refine .sl b off cap z (r'::rows') us hcap hI (λx hx=>?_) hl hc (λi u d hu hx=>?_)
   ·exact(NLr.cons r r' rows rows' h1 h2).lens hr x hx
   ·rw[List.flatten_cons] at hx
    by_cases hi:i<r'.length
    ·rw[List.getElem?_append_left hi] at hx;exact h1.at (λj=>us[j]?) (λj u d hu hd'=>hd j u d hu (by rw[List.flatten_cons,List.getElem?_append_left (List.getElem?_eq_some_iff.1 hd').1];exact hd')) i u d hu hx
    ·rw[List.getElem?_append_right (by omega)] at hx;exact h2.at (λj=>us[r.length+j]?) (λj u d hu hd'=>hd (r.length+j) u d hu (by rw[List.flatten_cons,List.getElem?_append_right (by omega),show r.length+j - r.length=j by omega];exact hd')) (i - r'.length) u d (by rw[e1,show r'.length+(i - r'.length)=i by omega];exact hu) hx
theorem NLs.at {I:Nat->Nat->Prop} {w:World}:∀ {l l':List D},NLs l l'->∀g:Nat->Option Value,(∀i u d,g i=some u->l[i]?=some d->AtD I w u d)->∀i u d,g i=some u->l'[i]?=some d->AtD I w u d
 | _,_,.nil,g,h,i,u,d,hu,hd=>by simp at hd
 | _,_,.cons d0 d0' l l' h1 h2,g,h,0,u,d,hu,hd=>by
  have hd:d0'=d:=by simpa using hd
  rw[<-hd];exact h1.at u (h 0 u d0 hu rfl)
 | _,_,.cons d0 d0' l l' h1 h2,g,h,i+1,u,d,hu,hd=>h2.at (λj=>g (j+1)) (λj u d hu hd=>h (j+1) u d hu (by simpa using hd)) i u d hu (by simpa using hd)
theorem NLr.at {I:Nat->Nat->Prop} {w:World}:∀ {l l':List (List D)},NLr l l'->∀g:Nat->Option Value,(∀i u d,g i=some u->l.flatten[i]?=some d->AtD I w u d)->∀i u d,g i=some u->l'.flatten[i]?=some d->AtD I w u d
 | _,_,.nil,g,h,i,u,d,hu,hd=>by simp at hd
 | _,_,.cons r r' l l' h1 h2,g,h,i,u,d,hu,hd=>by
  have e1:=h1.len;rw[List.flatten_cons] at hd
  by_cases hi:i<r'.length
  ·rw[List.getElem?_append_left hi] at hd;exact h1.at g (λj u d hu hd'=>h j u d hu (by rw[List.flatten_cons,List.getElem?_append_left (List.getElem?_eq_some_iff.1 hd').1];exact hd')) i u d hu hd
  ·rw[List.getElem?_append_right (by omega)] at hd;exact h2.at (λj=>g (r.length+j)) (λj u d hu hd'=>h (r.length+j) u d hu (by rw[List.flatten_cons,List.getElem?_append_right (by omega),show r.length+j - r.length=j by omega];exact hd')) (i - r'.length) u d (by rw[e1,show r'.length+(i - r'.length)=i by omega];exact hu) hd
end
theorem j5.nils {f:Nat} {ds ds':List D} {q:List R} (h:j5 f [.ag ds'] q) (hn:NLs ds ds'):j5 f [.ag ds] q:=by
 refine⟨h.1,λI w args hI hat=>h.2 I w args hI ?_⟩
 match args,hat with
 | [v],⟨⟨us,h1,h2⟩,_⟩ =>
  exact⟨⟨us,h1,h2.1.trans hn.len,hn.at (λj=>us[j]?) h2.2⟩,trivial⟩
def b9Q:List D:=[.sc (.int .u8 40),.sc (.string ⟨#[43]⟩),.sc (.string ⟨#[]⟩),.sc (.int .i64 0),.sc (.bool false),.sc (.int .u8 0),.sc (.string ⟨#[]⟩),.sc (.int .i64 0),.sl 0 [],.sl 10 [[.sc (.int .u8 37),.sc (.string ⟨#[]⟩),.sc (.string ⟨#[]⟩),.sc (.int .i64 0),.sc (.bool false),.sc (.int .u8 0),.sc (.string ⟨#[]⟩),.sc (.int .i64 0),.sl 0 [],.sl 10 [[.sc (.int .u8 32),.sc (.string ⟨#[102]⟩),.sc (.string ⟨#[]⟩),.sc (.int .i64 0),.sc (.bool false),.sc (.int .u8 0),.sc (.string ⟨#[]⟩),.sc (.int .i64 0),.sl 0 [],.sl 0 []],[.sc (.int .u8 32),.sc (.string ⟨#[120]⟩),.sc (.string ⟨#[]⟩),.sc (.int .i64 0),.sc (.bool false),.sc (.int .u8 0),.sc (.string ⟨#[]⟩),.sc (.int .i64 0),.sl 0 [],.sl 0 []]]],[.sc (.int .u8 40),.sc (.string ⟨#[42]⟩),.sc (.string ⟨#[]⟩),.sc (.int .i64 0),.sc (.bool false),.sc (.int .u8 0),.sc (.string ⟨#[]⟩),.sc (.int .i64 0),.sl 0 [],.sl 10 [[.sc (.int .u8 33),.sc (.string ⟨#[]⟩),.sc (.string ⟨#[]⟩),.sc (.int .i64 1),.sc (.bool false),.sc (.int .u8 0),.sc (.string ⟨#[]⟩),.sc (.int .i64 0),.sl 0 [],.sl 0 []],[.sc (.int .u8 33),.sc (.string ⟨#[]⟩),.sc (.string ⟨#[]⟩),.sc (.int .i64 2),.sc (.bool false),.sc (.int .u8 0),.sc (.string ⟨#[]⟩),.sc (.int .i64 0),.sl 0 [],.sl 0 []]]]]]
theorem b6l:NLs b9Q cal:=by
 unfold b9Q cal
 repeat' (first|exact .nil|exact .refl _|exact .nil _ _|refine .cons _ _ _ _ ?_ ?_|refine .sl _ _ _ _ _ ?_ ?_)
theorem b6m:j5 4 [] [.one (.sc (.bool true))]:=by
 have h0:=b9O.nils b6l;unfold b9Q at h0;refine C2 Tryz.func4 rfl ?_;intro qa _ _ _ _ _ _ _ _ qj;intros;rename_i hA;obtain⟨e1,e2,e3,e4,e5,e6,e7,e8,e9⟩:=l7 hA;have q1:qj (qa .i64 0) 0=true:=by rw[e9,e1];rfl
 iterate 2 (try cbv;repeat ((first|with_reducible apply j2 hA|rw[q1]|refine j3 hA _ h0 rfl ?_|refine j4 hA _ h0 ?_|refine y7 hA true ?_|refine a3e hA true ?_|rw[esr hA]);cbv))
def pnL (l:List Tm):Nat:=(l.map λx=>(anM x).parts.length).sum
theorem b7M {l:List Tm} {k:Nat} {x:Tm} (h:l[k]?=some x):pnL (l.take (k+1))=pnL (l.take k)+(anM x).parts.length:=by
 unfold pnL;rw[a1c h,List.map_append,List.sum_append]
 simp
theorem b6n:∀(l:List Tm) (k:Nat),pnL (l.take k)<=pnL l
 | [],k=>by rw[List.take_nil];exact Nat.le_refl _
 | x::l,0=>Nat.zero_le _
 | x::l,k+1=>by
  have:=b6n l k;unfold pnL at *;rw[List.take_succ_cons,List.map_cons,List.map_cons,List.sum_cons,List.sum_cons];omega
theorem c22 (n:Nat):decide ((300:Int)<(n:Int))=decide (300<n):=decide_eq_decide.2 (by omega)
theorem c23 (n:Nat):decide ((900:Int)<(n:Int))=decide (900<n):=decide_eq_decide.2 (by omega)
theorem c24 (a b:Nat) (h:a+b<=1048576):IntKind.i64.wrap ((a:Int)+(b:Int))=((a+b:Nat):Int):=by rw[IntWalk.i64_in _ (by omega)];omega
theorem b9R (t:Tm) (hN:(l4 t).length<=1048576) (hP:pnL (l4 t)<=1048576):j5 5 [.ag (cM t)] [.one (.sc (.bool (decide (300<(l4 t).length) || decide (900<pnL (l4 t)))))]:=by
 have hnd:=b7E t hN;obtain⟨L,hL⟩:∃l,l=l4 t:=⟨_,rfl⟩;rw[<-hL] at hnd hN hP ⊢;obtain⟨K,hK⟩:∃K,K=rM L:=⟨_,rfl⟩;rw[<-hK] at hnd;have hKl:K.length=L.length:=by rw[hK,a2i]
 obtain⟨B,hB⟩:∃B,B=(decide (300<L.length) || decide (900<pnL L)):=⟨_,rfl⟩;rw[<-hB];obtain⟨d0,d1,d2,d3,d4,d5,d6,d7,d8,d9,hd⟩:=W9 t;rw[hd] at hnd ⊢;obtain⟨inv,hv⟩:∃inv:Int×Int->Prop,inv=λx=>∃k:Nat,x.1=(k:Int)/\k<=L.length/\x.2=(pnL (L.take k):Int):=⟨_,rfl⟩
 have hi0:inv (0,0):=by rw[hv];exact⟨0,rfl,Nat.zero_le _,rfl⟩
 clear hL hd;refine C2 Tryz.func5 rfl ?_;intro qa qb _ _ _ _ _ qh _ _ _ _ _ _ _ _ _ _ _ _ _ _ qz va;intros;rename_i hA;obtain⟨e1,e2,e3,e4,e5,e6,e7,e8,e9⟩:=l7 hA;obtain⟨r1',r2,r3,r4⟩:=n8 hA;have r1:∀r:List (List D),qz r=((r.length:Nat):Int):=λr=>r1' r
 iterate 2 (try cbv;repeat ((first|with_reducible apply j2 hA|refine j3 hA _ hnd rfl ?_|refine j4 hA _ hnd ?_);cbv))
 try simp (maxSteps:=4000000) only [nc] at *
 refine o5 hA (γ:=Int×Int) (λx=>[(5,vi .i64 x.1),(4,vi .i64 x.2)]) (λx=>[]) inv (λx=>L.length - x.1.toNat) (0,0) hi0 ?_ ?_
 ·cbv
 ·intro x hinv;obtain⟨z,y⟩:=x;cbv;refine gn ?_;rw[hv] at hinv;obtain⟨k,hz,hk,hy⟩:=hinv;replace hz:z=(k:Int):=hz;replace hy:y=(pnL (L.take k):Int):=hy;have hple:=b6n L k;have hlt:qh z (qz K)=decide (k<L.length):=by rw[e7,r1,hKl,hz];exact decide_eq_decide.2 Int.ofNat_lt
  by_cases h9:k<L.length
  ·rw[decide_eq_true h9] at hlt;obtain⟨x,hx⟩:∃x,L[k]?=some x:=⟨_,List.getElem?_eq_getElem h9⟩;have gx:va K z=some (cM x):=by rw[r2,hz,if_pos (by omega),show ((k:Int)).toNat=k by omega,hK,B4 hx]
   have hpt:=b7M hx;have hple2:=b6n L (k+1);obtain⟨op,nm,ar,n,has,an,ks⟩:=x;have hpt:pnL (L.take (k+1))=pnL (L.take k)+an.parts.length:=hpt;have hp:=a8I an (by omega);obtain⟨Q,hQ⟩:∃Q,Q=rT an.parts:=⟨_,rfl⟩;have hQl:Q.length=an.parts.length:=by rw[hQ];exact L4 _
   rw[<-hQ] at hp;obtain⟨x0,x1,x2,x3,hxx⟩:=l6 an;rw[cM,hxx] at gx;rw[hxx] at hp;generalize rM ks=K' at *;replace gx:va K z=some [.sc (.int .u8 op),.sc (.string nm),.sc (.string ar),.sc (.int .i64 n),.sc (.bool has),x0,x1,x2,x3,.sl 10 K']:=gx;have hz1:qa .i64 (qb z 1)=((k+1:Nat):Int):=by rw[e1,e2,hz,IntWalk.i64_in _ (by omega)];omega
   have hy1:qa .i64 (qb y (qz Q))=(pnL (L.take (k+1)):Int):=by rw[e1,e2,r1,hQl,hy,hpt];exact c24 _ _ (by omega)
   have hm:L.length - (qa .i64 (qb z 1)).toNat<L.length - z.toNat:=by rw[hz1,hz];omega
   have hi:inv (qa .i64 (qb z 1),qa .i64 (qb y (qz Q))):=by rw[hv];exact⟨k+1,hz1,h9,hy1⟩
   clear hK hB hv;rw[hlt]
   iterate 2 (try cbv;repeat ((first|with_reducible apply j2 hA|rw[gx]|refine j3 hA _ hp rfl ?_|refine j4 hA _ hp ?_);cbv))
   try simp (maxSteps:=4000000) only [nc] at *
   refine⟨_,hi,hm,?_⟩;cbv
  ·rw[decide_eq_false h9] at hlt;rw[List.take_of_length_le (by omega)] at hy;have q1:qh 300 (qz K)=decide (300<L.length):=by rw[e7,r1,hKl];exact c22 _
   have q2:qh 900 y=decide (900<pnL L):=by rw[e7,hy];exact c23 _
   generalize decide (300<L.length)=b1 at *;generalize decide (900<pnL L)=b2 at *;rw[hlt,hB];clear hK hB hv;cases b1
   ·iterate 2 (try cbv;repeat ((first|with_reducible apply j2 hA|rw[q1]|rw[q2]);cbv))
   ·iterate 2 (try cbv;repeat ((first|with_reducible apply j2 hA|rw[q1]|rw[q2]);cbv))
def TmW (m:Nat):Tm->Prop
 | .mk op nm ar n _ a _=>(Lit.int .u8 op).wf=true/\(Lit.int .i64 n).wf=true/\a1C a/\nm.size<=m/\ar.size<=m/\∀y∈a.parts,y.name.size<=m
theorem TmW.up {m k:Nat} (h:m<=k):∀ {t:Tm},TmW m t->TmW k t
 | .mk _ _ _ _ _ _ _,⟨a,b,c,d,e,f⟩=>⟨a,b,c,by omega,by omega,λy hy=>Nat.le_trans (f y hy) h⟩
theorem a9k (a b:List Tm):pnL (a++b)=pnL a+pnL b:=by unfold pnL;rw[List.map_append,List.sum_append]
theorem b2Z:∀(l:List Nat) (i m:Nat),l[i]?=some m->m<=l.sum
 | x::l,0,m,h=>by
  have h:x=m:=by simpa using h
  rw[List.sum_cons];omega
 | x::l,i+1,m,h=>by
  have:=b2Z l i m (by simpa using h);rw[List.sum_cons];omega
theorem b6o:Tryz.prog.cellsOf 28=10:=by kernel_rfl
set_option maxRecDepth 100000 in
theorem b7N:∀(m:Nat) (ds:List D),Deep Tryz.prog 28 ds m->∃t:Tm,ds=cM t/\(l4 t).length+pnL (l4 t)<=m/\∀x∈l4 t,TmW m x:=by
 intro m
 induction m using Nat.strongRecOn with
 | ind m ih =>
  intro ds h;obtain⟨dss,ms,rfl,h1,h2,rfl,hf⟩:=h.unst Tryz.underlying28
  match dss,ms,h1,h2,hf with
  | [d0,d1,d2,d3,d4,d5,d6],[m0,m1,m2,m3,m4,m5,m6],_,_,hf =>
   obtain⟨op,rfl,w0,rfl⟩:=(hf 0 _ d0 m0 rfl rfl rfl).unint Tryz.underlying22;obtain⟨nm,rfl,w1,rfl⟩:=(hf 1 _ d1 m1 rfl rfl rfl).unstr Tryz.underlying9;obtain⟨ar,rfl,w2,rfl⟩:=(hf 2 _ d2 m2 rfl rfl rfl).unstr Tryz.underlying9;obtain⟨n,rfl,w3,rfl⟩:=(hf 3 _ d3 m3 rfl rfl rfl).unint Tryz.underlying2;obtain⟨b,rfl,rfl⟩:=(hf 4 _ d4 m4 rfl rfl rfl).unbool Tryz.underlying4;obtain⟨an,rfl,w5,w6,w7⟩:=b7C m5 d5 (hf 5 _ d5 m5 rfl rfl rfl);obtain⟨rows,ks,rfl,hl,hb,rfl,hr⟩:=(hf 6 _ d6 m6 rfl rfl rfl).unsl Tryz.underlying26;clear hf h
   have key:∀(rows:List (List D)) (ks:List Nat),ks.length=rows.length->(∀(i:Nat) (r:List D) (m':Nat),rows[i]?=some r->ks[i]?=some m'->∃t:Tm,r=cM t/\(l4 t).length+pnL (l4 t)<=m'/\∀x∈l4 t,TmW m' x) ->
     ∃ts:List Tm,rows=rM ts/\(A9 ts).length+pnL (A9 ts)<=ks.sum/\∀x∈A9 ts,TmW ks.sum x:=by
    intro rows
    induction rows with
    | nil=>intro ks hl _;exact⟨[],by rw[rM],by rw[A9];simp[pnL],λx hx=>by rw[A9] at hx;simp at hx⟩
    | cons r rows ihr =>
     intro ks hl hrr
     match ks,hl with
     | k::ks,hl =>
      obtain⟨t,e1,e2,e3⟩:=hrr 0 r k rfl rfl;obtain⟨ts,f1,f2,f3⟩:=ihr ks (by simpa using hl) λi r' m' hi hm=>hrr (i+1) r' m' (by simpa using hi) (by simpa using hm)
      refine⟨t::ts,by rw[rM,e1,f1],by rw[A9,List.length_append,a9k,List.sum_cons];omega,λx hx=>?_⟩;rw[A9,List.mem_append] at hx
      rcases hx with hx|hx
      ·exact(e3 x hx).up (by rw[List.sum_cons];omega)
      ·exact(f3 x hx).up (by rw[List.sum_cons];omega)
   have hsum:∀(i m':Nat),ks[i]?=some m'->m'<=ks.sum:=b2Z ks;obtain⟨ts,e1,e2,e3⟩:=key rows ks hl λi r m' hi hm=>ih m' (by have:=hsum i m' hm;simp;omega) r (hr i r m' hi hm)
   have hnn:l4 (.mk op nm ar n b an ts)=.mk op nm ar n b an ts::A9 ts:=by rw[l4]
   refine⟨.mk op nm ar n b an ts,?_,?_,λx hx=>?_⟩
   ·rw[cM,e1,b6o];rfl
   ·rw[hnn,List.length_cons,show Tm.mk op nm ar n b an ts::A9 ts=[Tm.mk op nm ar n b an ts]++A9 ts from rfl,a9k,show pnL [Tm.mk op nm ar n b an ts]=an.parts.length by simp[pnL,anM]];simp only[List.sum_cons,List.sum_nil];omega
   ·rw[hnn] at hx;simp only[List.sum_cons,List.sum_nil]
    rcases List.mem_cons.1 hx with rfl|hx
    ·exact⟨w0,w3,w6,by omega,by omega,λy hy=>by have:=w7 y hy;omega⟩
    ·exact(e3 x hx).up (by omega)
set_option maxRecDepth 100000 in
theorem b7O {r:R} {m:Nat} (h:a0C Tryz.prog 28 r m):∃t:Tm,r=.ag (cM t)/\(l4 t).length+pnL (l4 t)<=m/\∀x∈l4 t,TmW m x:=by
 obtain⟨xs,rfl,h1⟩:=h.ag Tryz.underlying28;obtain⟨t,rfl,h2⟩:=b7N m xs h1;exact⟨t,rfl,h2⟩
def a3Y (l:List UInt8) (c:Int):Bool:=l.any λx=>(x.toNat:Int) == c
theorem c1g (s:ByteArray) (c:Int) (hs:s.size<=1048576):j5 29 [.one (.sc (.string s)),.one (.sc (.int .u8 c))] [.one (.sc (.bool (a3Y (H3 s) c)))]:=by
 generalize hb:a3Y (H3 s) c=b;obtain⟨inv,hv⟩:∃inv:Int->Prop,inv=λz=>∃k:Nat,z=(k:Int)/\k<=s.size/\a3Y ((H3 s).drop k) c=b:=⟨_,rfl⟩
 have hi0:inv 0:=by rw[hv];exact⟨0,rfl,Nat.zero_le _,hb⟩
 refine C2 Tryz.func29 rfl ?_;intro qa qb _ _ _ _ _ qh _ qj _ _ _ _ _ _ qt qu;intros;rename_i hA;obtain⟨e1,e2,e3,e4,e5,e6,e7,e8,e9⟩:=l7 hA;obtain⟨s1,s2,s3,s4,s5,s6,-⟩:=o8 hA;replace s5:qt s=((s.size:Nat):Int):=s5 s;cbv;refine gn ?_;refine o5 hA (γ:=Int) (λz=>[(5,vi .i64 z)]) (λ_=>[]) inv (λz=>s.size - z.toNat) 0 hi0 ?_ ?_
 ·cbv
 ·intro z hinv;cbv;refine gn ?_;try simp only[nc] at *
  rw[hv] at hinv;obtain⟨k,hz,hk,hE⟩:=hinv;have hlt:qh z (qt s)=decide (k<s.size):=by rw[e7,s5,hz];exact decide_eq_decide.2 (by omega)
  by_cases h9:k<s.size
  ·rw[decide_eq_true h9] at hlt;obtain⟨x,hx⟩:∃x,(H3 s)[k]?=some x:=⟨_,List.getElem?_eq_getElem (by rw[B8];exact h9)⟩;have g1:qu s z=some (x.toNat:Int):=by rw[s6,hz];exact a3L hx
   have hdr:a3Y ((H3 s).drop k) c=(((x.toNat:Int) == c) || a3Y ((H3 s).drop (k+1)) c):=by
    obtain⟨hi,e⟩:=List.getElem?_eq_some_iff.1 hx;rw[List.drop_eq_getElem_cons hi,e];rfl
   rw[hdr] at hE;have u1:qa .i64 (qb z 1)=((k+1:Nat):Int):=by rw[e1,e2,hz,IntWalk.i64_in _ (by omega)];omega
   have hm:s.size - ((k+1:Nat):Int).toNat<s.size - z.toNat:=by rw[hz];omega
   have hi:a3Y ((H3 s).drop (k+1)) c=b->inv ((k+1:Nat):Int):=λe=>by
    rw[hv];exact⟨k+1,rfl,h9,e⟩
   have q0:qj (x.toNat:Int) c=((x.toNat:Int) == c):=e9 _ _;generalize ((k+1:Nat):Int)=z1 at *;generalize (x.toNat:Int)=y at *;generalize (y == c)=q at *;generalize a3Y ((H3 s).drop (k+1)) c=r at *;clear hdr hv;rw[hlt];cases q
   ·try cbv;refine gr ?_;try simp only[nc] at *
    refine⟨z1,hi hE,hm,?_⟩;cbv
   ·have hE:b=true:=hE.symm;rw[hE]
    try cbv;exact fr
  ·rw[decide_eq_false h9] at hlt
   have hE:b=false:=by
    rw[<-hE,List.drop_of_length_le (by rw[B8];omega)];rfl
   rw[hlt,hE]
   try cbv;exact fr
def b3a:List ByteArray:=[⟨#[110]⟩,⟨#[105]⟩,⟨#[98]⟩,⟨#[97,116,101]⟩,⟨#[110,97,116,101]⟩,⟨#[101,101]⟩,⟨#[110,101,101]⟩,⟨#[101,101,101]⟩,⟨#[111,101,101]⟩,⟨#[46]⟩,⟨#[110,101,101]⟩,⟨#[110,101]⟩,⟨#[110,101]⟩,⟨#[110,101,101]⟩,⟨#[110,101]⟩,⟨#[110,101]⟩,⟨#[99]⟩,⟨#[110,97,101]⟩,⟨#[97,101]⟩,⟨#[84,101]⟩]
theorem b3X (op:Int) (k:Nat) (s:ByteArray) (ho:op=32+(k:Int)) (hk:b3a[k]?=some s):j5 13 [.one (.sc (.int .u8 op))] [.one (.sc (.string s))]:=by
 have hlt:k<20:=by obtain⟨h,_⟩:=List.getElem?_eq_some_iff.1 hk;exact h
 obtain⟨L,hL⟩:∃L,L=rS b3a:=⟨_,rfl⟩;have hget:L[k]?=some [.sc (.string s)]:=by rw[hL];exact b5i hk
 have hlen:L.length=20:=by rw[hL];rfl
 have hL:L=[[.sc (.string ⟨#[110]⟩)],[.sc (.string ⟨#[105]⟩)],[.sc (.string ⟨#[98]⟩)],[.sc (.string ⟨#[97,116,101]⟩)],[.sc (.string ⟨#[110,97,116,101]⟩)],[.sc (.string ⟨#[101,101]⟩)],[.sc (.string ⟨#[110,101,101]⟩)],[.sc (.string ⟨#[101,101,101]⟩)],[.sc (.string ⟨#[111,101,101]⟩)],[.sc (.string ⟨#[46]⟩)],[.sc (.string ⟨#[110,101,101]⟩)],[.sc (.string ⟨#[110,101]⟩)],[.sc (.string ⟨#[110,101]⟩)],[.sc (.string ⟨#[110,101,101]⟩)],[.sc (.string ⟨#[110,101]⟩)],[.sc (.string ⟨#[110,101]⟩)],[.sc (.string ⟨#[99]⟩)],[.sc (.string ⟨#[110,97,101]⟩)],[.sc (.string ⟨#[97,101]⟩)],[.sc (.string ⟨#[84,101]⟩)]]:=hL;refine C2 Tryz.func13 rfl ?_;intro qa qb qc _ _ _ _ qh qi _ _ _ _ _ _ _ _ _ _ _ _ _ qz va;intros;rename_i hA;obtain⟨e1,e2,e3,e4,e5,e6,e7,e8,e9⟩:=l7 hA;obtain⟨r1,r2,r3,r4⟩:=n8 hA;have q0:qh op 32=false:=by rw[e7,ho];exact decide_eq_false (by omega)
 have q1:qz L=20:=by rw[r1,hlen];rfl
 have q2:qa .i64 (qb 32 20)=52:=by rw[e1,e2];rfl
 have q3:qa .i64 op=op:=by rw[e1,ho,IntWalk.i64_in _ (by omega)]
 have q4:qi 52 op=false:=by rw[e8,ho];exact decide_eq_false (by omega)
 have q5:va L (qa .u8 (qc op 32))=some [.sc (.string s)]:=by
  rw[r2,e1,e3,ho]
  have e:IntKind.u8.wrap (32+(k:Int) - 32)=(k:Int):=by
   rw[show 32+(k:Int) - 32=(k:Int) by omega];unfold IntKind.wrap
   simp[IntKind.bits,IntKind.signed]
   omega
  rw[e,if_pos (by omega),show ((k:Int)).toNat=k by omega,hget]
 cbv
 repeat ((first|with_reducible apply j2 hA|refine y7 hA true ?_);cbv)
 rw[<-hL];cbv;exact fr
def b3b (a:Ar) (all:List Oper) (i:Nat) (s:S) (dst:Option Nat) (K:S->Prop):Op->Prop
 | .call ⟨.value x,args,ts⟩=>match a16 true s x args.toList with
  | none=>match a16 false s x args.toList with
   | none=>B6 a false s dst K (.call ⟨.value x,args,ts⟩)
   | some _=>I6 a all i s dst K (.call ⟨.value x,args,ts⟩)
  | some _=>I6 a all i s dst K (.call ⟨.value x,args,ts⟩)
 | op=>I6 a all i s dst K op
theorem b0D (a:Ar) (all:List Oper) (i:Nat) (s:S) (dst:Option Nat) (K:S->Prop) (op:Op):b3b a all i s dst K op=I6 a all i s dst K op:=by
 unfold b3b
 split
 ·rename_i x args ts
  split
  ·rename_i h1
   split
   ·rename_i h2;show _=I6 a all i s dst K (.call ⟨.value x,args,ts⟩);unfold I6
    have h3:a16 (a4Q all i) s x args.toList=none:=by
     cases a4Q all i
     ·exact h2
     ·exact h1
    try dsimp only
    rw[h3]
   ·rfl
  ·rfl
 ·rfl
def b6p (a:Ar) (dsts:List (Option Nat)) (all:List Oper) (i:Nat):Oper->S->(S->Prop)->Prop
 | ⟨dst,op,_,_,_,none⟩,s,K=>b3b a all i s dst K op
 | ⟨dst,op,_,_,_,some (j,b)⟩,s,K=>guard s dsts j fun
  | some c=>match bEq c b with
   | true=>b3b a all i s dst K op
   | false=>K (s.put dst T1)
  | none=>K (s.put dst T1)
theorem b6q (a:Ar) (dsts:List (Option Nat)) (all:List Oper) (i:Nat) (o:Oper) (s:S) (K:S->Prop):b6p a dsts all i o s K=N7 a dsts all i o s K:=by
 obtain⟨dst,op,x,y,z,g⟩:=o;cases g with
 | none=>exact b0D ..
 | some jb =>
  obtain⟨j,b⟩:=jb;simp only[b6p,N7,b0D];refine congrArg (Vm.guard s dsts j) (funext λc=>?_);cases c with
  | none=>rfl
  | some c =>
   try dsimp only
   cases bEq c b <;> rfl
def b7P (a:Ar) (dsts:List (Option Nat)) (all:List Oper):Nat->List Oper->S->(S->Prop)->Prop
 | _,[],s,K=>K s
 | i,o::l,s,K=>b6p a dsts all i o s (λs=>b7P a dsts all (i+1) l s K)
theorem b3c (a:Ar) (dsts:List (Option Nat)) (all:List Oper):∀(l:List Oper) (i:Nat) (s:S) (K:S->Prop),b7P a dsts all i l s K=b0U a dsts all i l s K
 | [],_,_,_=>rfl
 | o::l,i,s,K=>by
  rw[b7P,b0U,b6q]
  congr 1
  funext s
  exact b3c a dsts all l (i+1) s K
theorem b8y {a:Ar} {id:Nat} {ops:Array Oper} {d1 d2:Code} {s:S} {K:X->S->Prop} (h1:b4n s.o=false) (h2:b4L ops.toList=false) (h3:a7y (M5 ops.toList) s.t=true) (h:b7P a (n5 ops.toList) ops.toList 0 ops.toList s (λs=>a.next (λs=>B7 a d1 s (λx s=>b8b (λs=>a.next (λs=>B7 a d2 s K) s) K x s)) s)):B7 a (.seq (.seq (.region id ops true) d1) d2) s K:=by
 rw[B7,B7,B7];rw[h1,h2,h3];rw[b3c] at h;exact h
end Go.Proofs.YtncijebklnbhlaaGreatDoor.Vm
end
