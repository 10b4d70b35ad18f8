/- Part 20 of the proof. Conditions: none. -/
import Derived.Test.YtncijebklnbhlaaGreatDoorQ16
import Derived.Test.YtncijebklnbhlaaGreatDoorQ18
import Derived.Test.YtncijebklnbhlaaGreatDoorQ19
set_option linter.all false
set_option linter.unusedVariables false
set_option linter.unusedSimpArgs false
section
namespace Go.Proofs.YtncijebklnbhlaaGreatDoor.Vm
open Go.RowKit
set_option maxRecDepth 100000
set_option maxHeartbeats 4000000
section
def WfT:Tm->Prop
 | .mk _ _ _ n _ a _=>a1C a/\n<=9223372036854775807
abbrev nn (t:Tm):Nat:=(l4 t).length
def FT (t:Tm):Prop:=∃(P0:ByteArray) (PS:List ByteArray) (u:Tm) (U:ByteArray),Ch t (P0::PS) u/\(P0::PS).length<=nn t/\(opM u≠41->Tx u U)/\j5 19 [.ag (cM t)] [.one (.sc (.string (a2D (P0::PS) (opM u) U)))]/\(a2D (P0::PS) (opM u) U).size+16<=268435456 * nn t
def PT (t:Tm):Prop:=∃s:ByteArray,s.size<=268435456 * nn t/\j5 8 [.ag (cM t)] [.one (.sc (.string s))]/\(opM t≠49->opM t≠50->j5 12 [.ag (cM t)] [.one (.sc (.string s))])/\(opM t=49\/opM t=50->Am t s)/\(opM t=42->FT t)
def KP (a:Tm) (d:Nat->D) (X:ByteArray) (k:Int):Prop:=cM a=tC d/\X.size<=268435456 * nn a/\j5 12 [.ag (tC d)] [.one (.sc (.string X))]/\j5 8 [.ag (tC d)] [.one (.sc (.string X))] /\
 (∀r,j5 27 [.ag (tC d),.one (.sc (.int .i64 r))] [.one (.sc (.string (atB k r X)))])/\(∀r,j5 17 [.ag (tC d),.one (.sc (.int .i64 r))] [.one (.sc (.string (atB k r X)))])
section
variable {op n:Int} {nm ar:ByteArray} {has:Bool} {an:Ty} {ks:List Tm}
theorem G7 {arm x y:Bool} {c v:Nat} (hs:shM op=some (x,y,c,v)) (h:rtM GA arm (.mk op nm ar n has an ks)=true):(arm == (op == 49 || op == 50))=true/\(if op=33 then decide (0<=n) else if op=34 then n == 0 || n == 1 else n == 0)=true/\(if has=true then decide (0<v) && GA an else decide (v<2) && J7 an)=true/\T9 ar y=true /\
  (if op=40 then a12.any λs=>s.data.toList == nm.data.toList else T9 nm x)=true/\(if c=99 then decide (0<ks.length) else ks.length == c)=true/\rtK GA (op == 48) true ks=true:=by
 rw[rtM,Bool.and_eq_true] at h;obtain⟨h1,h2⟩:=h;unfold ndB at h1;rw[hs] at h1;dsimp only at h1;simp only[Bool.and_eq_true] at h1;obtain⟨a1,a2,a3,a4,a5,a6⟩:=h1;exact⟨a1,a2,a3,a4,a5,a6,h2⟩
theorem c1b {x:Bool} (h:T9 nm x=true):b7H nm:=by
 unfold T9 at h
 have key:∀s:ByteArray,r5 s=false->s.data.toList≠[]->nm≠s:=λs h1 h2 e=>by
  rw[e] at h;cases x
  ·rw[if_neg (by decide)] at h;exact h2 (beq_iff_eq.1 h)
  ·rw[if_pos rfl,h1] at h;cases h
 exact⟨key _ rfl (by simp),key _ rfl (by simp),key _ rfl (by simp),key _ rfl (by simp)⟩
theorem b6f {q:Bool×Bool×Nat×Nat} (h:shM op=some q):op=40\/((op=32\/op=33\/op=34\/op=35\/op=36\/op=37\/op=38\/op=39)\/(op=41\/op=42\/op=43\/op=44\/op=45\/op=46\/op=47\/op=48\/op=49\/op=50\/op=51)):=by
 by_cases h1:op<32\/51<op
 ·have:shM op=none:=by
   unfold shM;rw[if_neg (by omega),if_neg (by omega),if_neg (by omega),if_neg (by omega),if_neg (by omega),if_neg (by omega),if_neg (by omega),if_neg (by omega),if_neg (by omega),if_neg (by omega),if_neg (by omega),if_neg (by omega),if_neg (by omega)]
  rw[this] at h;cases h
 ·omega
theorem b6g {arm:Bool} (h:rtM GA arm (.mk op nm ar n has an ks)=true):∃q,shM op=some q:=by
 rw[rtM,Bool.and_eq_true] at h;have h1:=h.1;unfold ndB at h1;cases hs:shM op with
 | none=>rw[hs] at h1;cases h1
 | some q=>exact⟨q,rfl⟩
theorem L8 {a:Tm} (h:PT a) (hr:rtM GA false a=true) (hz:nn a<=4095):∃d X k,KP a d X k:=by
 obtain⟨op,nm,ar,n,has,an,ks⟩:=a;obtain⟨s,h1,h2,h3,-,-⟩:=h;obtain⟨q,hq⟩:=b6g hr;obtain⟨x,y,c,v⟩:=q;obtain⟨a1,-,-,-,a5,-,-⟩:=G7 hq hr
 have hop:op≠49/\op≠50:=by
  constructor
  ·intro e;rw[e] at a1;cases a1
  ·intro e;rw[e] at a1;cases a1
 have h3:=h3 hop.1 hop.2
 have hns:op=40\/b7H nm:=by
  by_cases h40:op=40
  ·exact .inl h40
  ·rw[if_neg h40] at a5;exact .inr (c1b a5)
 obtain⟨x0,x1,x2,x3,hx⟩:=l6 an;have hc:cM (.mk op nm ar n has an ks)=[.sc (.int .u8 op),.sc (.string nm),.sc (.string ar),.sc (.int .i64 n),.sc (.bool has),x0,x1,x2,x3,.sl 10 (rM ks)]:=by rw[cM,hx];rfl
 rw[hc] at h2 h3;have hsz:Fz s:=by unfold Fz;omega
 exact⟨λk=>match k with|0=>.sc (.int .u8 op)|1=>.sc (.string nm)|2=>.sc (.string ar)|3=>.sc (.int .i64 n)|4=>.sc (.bool has)|5=>x0|6=>x1|7=>x2|8=>x3|_=>.sl 10 (rM ks),s,rkM op nm,hc,h1,h3,h2,λr=>b8s h3 hsz,λr=>b9A hns h2 hsz⟩
theorem b2X {an:Ty} (hs:Sm an) (hw:a1C an) (hg:GA an=true):∃T:ByteArray,T.size<=67108864/\∀x0 x1 x2 x3,cT an=[x0,x1,x2,x3]->j5 44 [.ag [x0,x1,x2,x3]] [.one (.sc (.string T))]/\j5 20 [.ag [x0,x1,x2,x3]] [.one (.sc (.string T))]:=by
 unfold GA at hg;rw[Bool.and_eq_true] at hg;have hr:=hg.1;have hsh:=(I9 hr).1;have hN:(j7 an).parts.length<=1048576:=by rw[a0o _ an (Nat.le_refl _) (B9 hsh)];exact hs.1
 refine⟨a4G (j7 an),a3X (a8c hr hw) hN,λx0 x1 x2 x3 e=>?_⟩;rw[<-e];exact⟨c0S an hs hw hr,b3V an hs.1 hw hsh⟩
theorem b8v {v:Nat} (hs:Sm an) (hw:a1C an) (hz:ar.size<=1048576) (h:(if has=true then decide (0<v) && GA an else decide (v<2) && J7 an)=true):∃P:ByteArray,P.size<=134217728/\∀op nm n x0 x1 x2 x3 K,cT an=[x0,x1,x2,x3]->j5 24 [.ag (nC op nm ar n has x0 x1 x2 x3 K)] [.one (.sc (.string P))]/\j5 16 [.ag (nC op nm ar n has x0 x1 x2 x3 K)] [.one (.sc (.string P))]:=by
 have hza:Fz ar:=by unfold Fz;omega
 cases has
 ·refine⟨a7l false ar ⟨⟨[]⟩⟩,by unfold a7l;rw[if_neg (by decide)];omega,λop nm n x0 x1 x2 x3 K e=>⟨b8r (λh=>by cases h) hza (by unfold Fz;simp[U0]),b08 (λh=>by cases h) hza (by unfold Fz;simp[U0])⟩⟩
 ·rw[if_pos rfl,Bool.and_eq_true] at h;obtain⟨T,h1,h2⟩:=b2X hs hw h.2;refine⟨a7l true ar T,by unfold a7l;rw[if_pos rfl];simp only[ByteArray.size_append,U0,List.length_cons,List.length_nil];omega,λop nm n x0 x1 x2 x3 K e=>⟨b8r (λ_=>(h2 _ _ _ _ e).1) hza (by unfold Fz;omega),b08 (λ_=>(h2 _ _ _ _ e).2) hza (by unfold Fz;omega)⟩⟩
theorem a15 (h:(ks.length == 1)=true) (hk:rtK GA false true ks=true):∃a,ks=[a]/\rtM GA false a=true:=by
 match ks,h with
 | [a],_ =>
  rw[rtK,Bool.and_eq_true] at hk;exact⟨a,rfl,hk.1⟩
theorem a6Z (h:(ks.length == 2)=true) (hk:rtK GA false true ks=true):∃a b,ks=[a,b]/\rtM GA false a=true/\rtM GA false b=true:=by
 match ks,h with
 | [a,b],_ =>
  rw[rtK,rtK] at hk;simp only[Bool.and_eq_true] at hk;exact⟨a,b,rfl,hk.1,hk.2.2.1⟩
theorem b9J (h:(ks.length == 3)=true) (hk:rtK GA false true ks=true):∃a b c,ks=[a,b,c]/\rtM GA false a=true/\rtM GA false b=true/\rtM GA false c=true:=by
 match ks,h with
 | [a,b,c],_ =>
  rw[rtK,rtK,rtK] at hk;simp only[Bool.and_eq_true] at hk;exact⟨a,b,c,rfl,hk.1,hk.2.2.1,hk.2.2.2.2.1⟩
theorem a9j (h:(ks.length == 0)=true):ks=[]:=by
 match ks,h with
 | [],_=>rfl
theorem b6h:nn (.mk op nm ar n has an [])=1:=by unfold nn;rw[l4,A9];rfl
theorem a1E {a:Tm}:nn (.mk op nm ar n has an [a])=1+nn a:=by unfold nn;rw[l4,A9,A9,List.length_cons,List.length_append,List.length_nil];omega
theorem a7a {a b:Tm}:nn (.mk op nm ar n has an [a,b])=1+nn a+nn b:=by unfold nn;rw[l4,A9,A9,A9,List.length_cons,List.length_append,List.length_append,List.length_nil];omega
theorem c1c {a b c:Tm}:nn (.mk op nm ar n has an [a,b,c])=1+nn a+nn b+nn c:=by unfold nn;rw[l4,A9,A9,A9,A9,List.length_cons,List.length_append,List.length_append,List.length_append,List.length_nil];omega
theorem a0g (h42:op≠42) (h49:op≠49) (h50:op≠50) (s:ByteArray) (hz:s.size<=268435456 * nn (.mk op nm ar n has an ks)) (h1:∀x0 x1 x2 x3,cT an=[x0,x1,x2,x3]->j5 8 [.ag (nC op nm ar n has x0 x1 x2 x3 (rM ks))] [.one (.sc (.string s))]/\j5 12 [.ag (nC op nm ar n has x0 x1 x2 x3 (rM ks))] [.one (.sc (.string s))]):PT (.mk op nm ar n has an ks):=by
 obtain⟨x0,x1,x2,x3,hx⟩:=l6 an;have hc:cM (.mk op nm ar n has an ks)=nC op nm ar n has x0 x1 x2 x3 (rM ks):=by rw[cM,hx];rfl
 obtain⟨h2,h3⟩:=h1 x0 x1 x2 x3 hx;rw[<-hc] at h2 h3;exact⟨s,hz,h2,λ_ _=>h3,λh=>absurd h (by rintro (h|h);exact h49 h;exact h50 h),λh=>absurd h h42⟩
end
end
section
section
variable {op n:Int} {nm ar:ByteArray} {has arm:Bool} {an:Ty} {ks:List Tm}
theorem c2h (hS:SmT (.mk 32 nm ar n has an ks)) (hW:WfT (.mk 32 nm ar n has an ks)) (hr:rtM GA arm (.mk 32 nm ar n has an ks)=true) (hih:∀k∈ks,PT k) (hz:nn (.mk 32 nm ar n has an ks)<=4096):PT (.mk 32 nm ar n has an ks):=by
 obtain⟨a1,a2,a3,a4,a5,a6,a7⟩:=G7 (op:=32) (x:=true) (y:=false) (c:=0) (v:=0) rfl hr;obtain⟨hSa,hSn,hSr⟩:=hS;obtain⟨hWa,hWn⟩:=hW;have zn:Fz nm:=by unfold Fz;omega
 obtain rfl:=a9j a6;obtain⟨S,hSS⟩:∃S:ByteArray,S=nm:=⟨_,rfl⟩
 have hsz:S.size<=268435456 * nn (Tm.mk 32 nm ar n has an []):=by
  clear a1 a2 a3 a4 a5 a6 a7;rw[hSS,b6h];omega
 exact a0g (by decide) (by decide) (by decide) S hsz λx0 x1 x2 x3 hx=>⟨by rw[hSS];exact c1O,by rw[hSS];exact b96⟩
theorem c2i (hS:SmT (.mk 33 nm ar n has an ks)) (hW:WfT (.mk 33 nm ar n has an ks)) (hr:rtM GA arm (.mk 33 nm ar n has an ks)=true) (hih:∀k∈ks,PT k) (hz:nn (.mk 33 nm ar n has an ks)<=4096):PT (.mk 33 nm ar n has an ks):=by
 obtain⟨a1,a2,a3,a4,a5,a6,a7⟩:=G7 (op:=33) (x:=false) (y:=false) (c:=0) (v:=0) rfl hr;obtain⟨hSa,hSn,hSr⟩:=hS;obtain⟨hWa,hWn⟩:=hW;have zn:Fz nm:=by unfold Fz;omega
 obtain rfl:=a9j a6;have h0:0<=n:=of_decide_eq_true a2;have hl:=Lib.itoa_length_le n (by omega) hWn;have hb:(bx (Lib.itoa n)).size=(Lib.itoa n).length:=s8 _;obtain⟨S,hSS⟩:∃S:ByteArray,S=bx (Lib.itoa n):=⟨_,rfl⟩
 have hsz:S.size<=268435456 * nn (Tm.mk 33 nm ar n has an []):=by
  clear a1 a2 a3 a4 a5 a6 a7;rw[hSS,b6h];omega
 exact a0g (by decide) (by decide) (by decide) S hsz λx0 x1 x2 x3 hx=>⟨by rw[hSS];exact c1P (b5U _ n (Nat.le_refl _) h0 hWn),by rw[hSS];exact b97 (b1t n (by omega) hWn)⟩
theorem c2j (hS:SmT (.mk 34 nm ar n has an ks)) (hW:WfT (.mk 34 nm ar n has an ks)) (hr:rtM GA arm (.mk 34 nm ar n has an ks)=true) (hih:∀k∈ks,PT k) (hz:nn (.mk 34 nm ar n has an ks)<=4096):PT (.mk 34 nm ar n has an ks):=by
 obtain⟨a1,a2,a3,a4,a5,a6,a7⟩:=G7 (op:=34) (x:=false) (y:=false) (c:=0) (v:=0) rfl hr;obtain⟨hSa,hSn,hSr⟩:=hS;obtain⟨hWa,hWn⟩:=hW;have zn:Fz nm:=by unfold Fz;omega
 obtain rfl:=a9j a6;cases hv:(n == 1) with
 | true=>exact a0g (by decide) (by decide) (by decide) ⟨⟨[116,114,117,101]⟩⟩ (by rw[b6h];simp only[U0,List.length_cons,List.length_nil];omega) λx0 x1 x2 x3 hx=>⟨c0Z hv,c0X (by rw[hv];exact b2G true)⟩
 | false=>exact a0g (by decide) (by decide) (by decide) ⟨⟨[102,97,108,115,101]⟩⟩ (by rw[b6h];simp only[U0,List.length_cons,List.length_nil];omega) λx0 x1 x2 x3 hx=>⟨c1a hv,c0X (by rw[hv];exact b2G false)⟩
theorem c2k (hS:SmT (.mk 35 nm ar n has an ks)) (hW:WfT (.mk 35 nm ar n has an ks)) (hr:rtM GA arm (.mk 35 nm ar n has an ks)=true) (hih:∀k∈ks,PT k) (hz:nn (.mk 35 nm ar n has an ks)<=4096):PT (.mk 35 nm ar n has an ks):=by
 obtain⟨a1,a2,a3,a4,a5,a6,a7⟩:=G7 (op:=35) (x:=false) (y:=true) (c:=1) (v:=1) rfl hr;obtain⟨hSa,hSn,hSr⟩:=hS;obtain⟨hWa,hWn⟩:=hW;have zn:Fz nm:=by unfold Fz;omega
 obtain⟨a,rfl,ra⟩:=a15 a6 a7;rw[a1E] at hz;have pa:1<=nn a:=r9 a;obtain⟨d,X,kX,hd,zX,tX,qX,atX,siX⟩:=L8 (hih a (by simp)) ra (by omega);have fX:Fz X:=by unfold Fz;omega
 have k0:(rM [a])[0]?=some (tC d):=by rw[B4 (t:=a) rfl,hd]
 obtain⟨P,zP,hP⟩:=b8v hSa hWa hSr a3;have fP:Fz P:=by unfold Fz;omega
 have fB:Fz (⟨⟨[32,61,62,32]⟩⟩++X):=by unfold Fz;simp only[ByteArray.size_append,U0,List.length_cons,List.length_nil];omega
 obtain⟨S,hSS⟩:∃S:ByteArray,S=⟨⟨[102,117,110,32]⟩⟩++P++(⟨⟨[32,61,62,32]⟩⟩++X):=⟨_,rfl⟩
 have hsz:S.size<=268435456 * nn (Tm.mk 35 nm ar n has an [a]):=by
  clear a1 a2 a3 a4 a5 a6 a7;rw[hSS,a1E];simp only[ByteArray.size_append,U0,List.length_cons,List.length_nil];omega
 exact a0g (by decide) (by decide) (by decide) S hsz λx0 x1 x2 x3 hx=>⟨by rw[hSS,<-ByteArray.append_assoc];exact c1Q k0 (hP _ _ _ _ _ _ _ _ hx).2 fP qX fX,by rw[hSS];exact c1B (hP _ _ _ _ _ _ _ _ hx).1 fP (b2U k0 tX fX) fB⟩
theorem c2l (hS:SmT (.mk 36 nm ar n has an ks)) (hW:WfT (.mk 36 nm ar n has an ks)) (hr:rtM GA arm (.mk 36 nm ar n has an ks)=true) (hih:∀k∈ks,PT k) (hz:nn (.mk 36 nm ar n has an ks)<=4096):PT (.mk 36 nm ar n has an ks):=by
 obtain⟨a1,a2,a3,a4,a5,a6,a7⟩:=G7 (op:=36) (x:=true) (y:=true) (c:=1) (v:=1) rfl hr;obtain⟨hSa,hSn,hSr⟩:=hS;obtain⟨hWa,hWn⟩:=hW;have zn:Fz nm:=by unfold Fz;omega
 obtain⟨a,rfl,ra⟩:=a15 a6 a7;rw[a1E] at hz;have pa:1<=nn a:=r9 a;obtain⟨d,X,kX,hd,zX,tX,qX,atX,siX⟩:=L8 (hih a (by simp)) ra (by omega);have fX:Fz X:=by unfold Fz;omega
 have k0:(rM [a])[0]?=some (tC d):=by rw[B4 (t:=a) rfl,hd]
 obtain⟨P,zP,hP⟩:=b8v hSa hWa hSr a3;have fP:Fz P:=by unfold Fz;omega
 have fB:Fz (⟨⟨[32,61,62,32]⟩⟩++X):=by unfold Fz;simp only[ByteArray.size_append,U0,List.length_cons,List.length_nil];omega
 obtain⟨S,hSS⟩:∃S:ByteArray,S=⟨⟨[114,101,99,32]⟩⟩++nm++⟨⟨[32]⟩⟩++P++(⟨⟨[32,61,62,32]⟩⟩++X):=⟨_,rfl⟩
 have hsz:S.size<=268435456 * nn (Tm.mk 36 nm ar n has an [a]):=by
  clear a1 a2 a3 a4 a5 a6 a7;rw[hSS,a1E];simp only[ByteArray.size_append,U0,List.length_cons,List.length_nil];omega
 exact a0g (by decide) (by decide) (by decide) S hsz λx0 x1 x2 x3 hx=>⟨by rw[hSS,<-ByteArray.append_assoc];exact c1R k0 (hP _ _ _ _ _ _ _ _ hx).2 fP qX fX zn,by rw[hSS];exact c1C (hP _ _ _ _ _ _ _ _ hx).1 fP (b2U k0 tX fX) fB zn⟩
theorem c2m (hS:SmT (.mk 37 nm ar n has an ks)) (hW:WfT (.mk 37 nm ar n has an ks)) (hr:rtM GA arm (.mk 37 nm ar n has an ks)=true) (hih:∀k∈ks,PT k) (hz:nn (.mk 37 nm ar n has an ks)<=4096):PT (.mk 37 nm ar n has an ks):=by
 obtain⟨a1,a2,a3,a4,a5,a6,a7⟩:=G7 (op:=37) (x:=false) (y:=false) (c:=2) (v:=0) rfl hr;obtain⟨hSa,hSn,hSr⟩:=hS;obtain⟨hWa,hWn⟩:=hW;have zn:Fz nm:=by unfold Fz;omega
 obtain⟨a,b,rfl,ra,rb⟩:=a6Z a6 a7;rw[a7a] at hz;have pa:1<=nn a:=r9 a;have pb:1<=nn b:=r9 b;obtain⟨d,X,kX,hd,zX,tX,qX,atX,siX⟩:=L8 (hih a (by simp)) ra (by omega);have fX:Fz X:=by unfold Fz;omega
 obtain⟨e,Y,kY,he,zY,tY,qY,atY,siY⟩:=L8 (hih b (by simp)) rb (by omega);have fY:Fz Y:=by unfold Fz;omega
 have k0:(rM [a,b])[0]?=some (tC d):=by rw[B4 (t:=a) rfl,hd]
 have k1:(rM [a,b])[1]?=some (tC e):=by rw[B4 (t:=b) rfl,he]
 have sX:=a2s (k:=kX) (r:=3) (X:=X);have gX:Fz (atB kX (3) X):=by unfold Fz;omega
 have sY:=a2s (k:=kY) (r:=4) (X:=Y);have gY:Fz (atB kY (4) Y):=by unfold Fz;omega
 obtain⟨S,hSS⟩:∃S:ByteArray,S=atB kX 3 X++⟨⟨[32]⟩⟩++atB kY 4 Y:=⟨_,rfl⟩
 have hsz:S.size<=268435456 * nn (Tm.mk 37 nm ar n has an [a,b]):=by
  clear a1 a2 a3 a4 a5 a6 a7;rw[hSS,a7a];simp only[ByteArray.size_append,U0,List.length_cons,List.length_nil];omega
 exact a0g (by decide) (by decide) (by decide) S hsz λx0 x1 x2 x3 hx=>⟨by rw[hSS];exact c1S k0 k1 (siX 3) gX (siY 4) gY,by rw[hSS];exact c0Y k0 k1 (atX 3) gX (atY 4) gY⟩
theorem c2n (hS:SmT (.mk 38 nm ar n has an ks)) (hW:WfT (.mk 38 nm ar n has an ks)) (hr:rtM GA arm (.mk 38 nm ar n has an ks)=true) (hih:∀k∈ks,PT k) (hz:nn (.mk 38 nm ar n has an ks)<=4096):PT (.mk 38 nm ar n has an ks):=by
 obtain⟨a1,a2,a3,a4,a5,a6,a7⟩:=G7 (op:=38) (x:=true) (y:=false) (c:=2) (v:=0) rfl hr;obtain⟨hSa,hSn,hSr⟩:=hS;obtain⟨hWa,hWn⟩:=hW;have zn:Fz nm:=by unfold Fz;omega
 obtain⟨a,b,rfl,ra,rb⟩:=a6Z a6 a7;rw[a7a] at hz;have pa:1<=nn a:=r9 a;have pb:1<=nn b:=r9 b;obtain⟨d,X,kX,hd,zX,tX,qX,atX,siX⟩:=L8 (hih a (by simp)) ra (by omega);have fX:Fz X:=by unfold Fz;omega
 obtain⟨e,Y,kY,he,zY,tY,qY,atY,siY⟩:=L8 (hih b (by simp)) rb (by omega);have fY:Fz Y:=by unfold Fz;omega
 have k0:(rM [a,b])[0]?=some (tC d):=by rw[B4 (t:=a) rfl,hd]
 have k1:(rM [a,b])[1]?=some (tC e):=by rw[B4 (t:=b) rfl,he]
 obtain⟨S,hSS⟩:∃S:ByteArray,S=⟨⟨[108,101,116,32]⟩⟩++nm++⟨⟨[32,61,32]⟩⟩++X++⟨⟨[32,105,110,32]⟩⟩++Y:=⟨_,rfl⟩
 have hsz:S.size<=268435456 * nn (Tm.mk 38 nm ar n has an [a,b]):=by
  clear a1 a2 a3 a4 a5 a6 a7;rw[hSS,a7a];simp only[ByteArray.size_append,U0,List.length_cons,List.length_nil];omega
 exact a0g (by decide) (by decide) (by decide) S hsz λx0 x1 x2 x3 hx=>⟨by rw[hSS];exact c1T k0 k1 qX fX qY fY zn,by rw[hSS];exact c1D k0 k1 tX fX tY fY zn⟩
theorem c2o (hS:SmT (.mk 39 nm ar n has an ks)) (hW:WfT (.mk 39 nm ar n has an ks)) (hr:rtM GA arm (.mk 39 nm ar n has an ks)=true) (hih:∀k∈ks,PT k) (hz:nn (.mk 39 nm ar n has an ks)<=4096):PT (.mk 39 nm ar n has an ks):=by
 obtain⟨a1,a2,a3,a4,a5,a6,a7⟩:=G7 (op:=39) (x:=false) (y:=false) (c:=3) (v:=0) rfl hr;obtain⟨hSa,hSn,hSr⟩:=hS;obtain⟨hWa,hWn⟩:=hW;have zn:Fz nm:=by unfold Fz;omega
 obtain⟨a,b,c,rfl,ra,rb,rc⟩:=b9J a6 a7;rw[c1c] at hz;have pa:1<=nn a:=r9 a;have pb:1<=nn b:=r9 b;have pc:1<=nn c:=r9 c;obtain⟨d,X,kX,hd,zX,tX,qX,atX,siX⟩:=L8 (hih a (by simp)) ra (by omega);have fX:Fz X:=by unfold Fz;omega
 obtain⟨e,Y,kY,he,zY,tY,qY,atY,siY⟩:=L8 (hih b (by simp)) rb (by omega);have fY:Fz Y:=by unfold Fz;omega
 obtain⟨f,Z,kZ,hf,zZ,tZ,qZ,atZ,siZ⟩:=L8 (hih c (by simp)) rc (by omega);have fZ:Fz Z:=by unfold Fz;omega
 have k0:(rM [a,b,c])[0]?=some (tC d):=by rw[B4 (t:=a) rfl,hd]
 have k1:(rM [a,b,c])[1]?=some (tC e):=by rw[B4 (t:=b) rfl,he]
 have k2:(rM [a,b,c])[2]?=some (tC f):=by rw[B4 (t:=c) rfl,hf]
 obtain⟨S,hSS⟩:∃S:ByteArray,S=⟨⟨[105,102,32]⟩⟩++X++⟨⟨[32,116,104,101,110,32]⟩⟩++Y++⟨⟨[32,101,108,115,101,32]⟩⟩++Z:=⟨_,rfl⟩
 have hsz:S.size<=268435456 * nn (Tm.mk 39 nm ar n has an [a,b,c]):=by
  clear a1 a2 a3 a4 a5 a6 a7;rw[hSS,c1c];simp only[ByteArray.size_append,U0,List.length_cons,List.length_nil];omega
 exact a0g (by decide) (by decide) (by decide) S hsz λx0 x1 x2 x3 hx=>⟨by rw[hSS];exact c1U k0 k1 k2 qX fX qY fY qZ fZ,by rw[hSS];exact c1E k0 k1 k2 tX fX tY fY tZ fZ⟩
theorem c2p (hS:SmT (.mk 40 nm ar n has an ks)) (hW:WfT (.mk 40 nm ar n has an ks)) (hr:rtM GA arm (.mk 40 nm ar n has an ks)=true) (hih:∀k∈ks,PT k) (hz:nn (.mk 40 nm ar n has an ks)<=4096):PT (.mk 40 nm ar n has an ks):=by
 obtain⟨a1,a2,a3,a4,a5,a6,a7⟩:=G7 (op:=40) (x:=true) (y:=false) (c:=2) (v:=0) rfl hr;obtain⟨hSa,hSn,hSr⟩:=hS;obtain⟨hWa,hWn⟩:=hW;have zn:Fz nm:=by unfold Fz;omega
 obtain⟨a,b,rfl,ra,rb⟩:=a6Z a6 a7;rw[a7a] at hz;have pa:1<=nn a:=r9 a;have pb:1<=nn b:=r9 b;obtain⟨d,X,kX,hd,zX,tX,qX,atX,siX⟩:=L8 (hih a (by simp)) ra (by omega);have fX:Fz X:=by unfold Fz;omega
 obtain⟨e,Y,kY,he,zY,tY,qY,atY,siY⟩:=L8 (hih b (by simp)) rb (by omega);have fY:Fz Y:=by unfold Fz;omega
 have k0:(rM [a,b])[0]?=some (tC d):=by rw[B4 (t:=a) rfl,hd]
 have k1:(rM [a,b])[1]?=some (tC e):=by rw[B4 (t:=b) rfl,he]
 obtain⟨l,hl⟩:∃l,rkM 40 nm=l:=⟨_,rfl⟩;obtain⟨r,hrr⟩:∃r:Int,r=if l=0 then 1 else l:=⟨_,rfl⟩
 have sX:=a2s (k:=kX) (r:=r) (X:=X);have gX:Fz (atB kX (r) X):=by unfold Fz;omega
 have sY:=a2s (k:=kY) (r:=l+1) (X:=Y);have gY:Fz (atB kY (l+1) Y):=by unfold Fz;omega
 obtain⟨S,hSS⟩:∃S:ByteArray,S=atB kX r X++⟨⟨[32]⟩⟩++nm++⟨⟨[32]⟩⟩++atB kY (l+1) Y:=⟨_,rfl⟩
 have hsz:S.size<=268435456 * nn (Tm.mk 40 nm ar n has an [a,b]):=by
  clear a1 a2 a3 a4 a5 a6 a7;rw[hSS,a7a];simp only[ByteArray.size_append,U0,List.length_cons,List.length_nil];omega
 exact a0g (by decide) (by decide) (by decide) S hsz λx0 x1 x2 x3 hx=>⟨by rw[hSS];exact c2f hl hrr k0 k1 (siX r) (siY _) gX gY zn,by rw[hSS];exact b98 (b5S hl hrr k0 k1 (atX r) (atY _) gX gY zn) (by unfold Fz;simp only[ByteArray.size_append,U0,List.length_cons,List.length_nil];omega)⟩
theorem c2q (hS:SmT (.mk 41 nm ar n has an ks)) (hW:WfT (.mk 41 nm ar n has an ks)) (hr:rtM GA arm (.mk 41 nm ar n has an ks)=true) (hih:∀k∈ks,PT k) (hz:nn (.mk 41 nm ar n has an ks)<=4096):PT (.mk 41 nm ar n has an ks):=by
 obtain⟨a1,a2,a3,a4,a5,a6,a7⟩:=G7 (op:=41) (x:=false) (y:=false) (c:=0) (v:=0) rfl hr;obtain⟨hSa,hSn,hSr⟩:=hS;obtain⟨hWa,hWn⟩:=hW;have zn:Fz nm:=by unfold Fz;omega
 obtain rfl:=a9j a6;obtain⟨S,hSS⟩:∃S:ByteArray,S=⟨⟨[123,125]⟩⟩:=⟨_,rfl⟩
 have hsz:S.size<=268435456 * nn (Tm.mk 41 nm ar n has an []):=by
  clear a1 a2 a3 a4 a5 a6 a7;rw[hSS,b6h];simp only[ByteArray.size_append,U0,List.length_cons,List.length_nil];omega
 exact a0g (by decide) (by decide) (by decide) S hsz λx0 x1 x2 x3 hx=>⟨by rw[hSS];exact c1V,by rw[hSS];exact ptl (by decide) c1N⟩
theorem c2r (hS:SmT (.mk 43 nm ar n has an ks)) (hW:WfT (.mk 43 nm ar n has an ks)) (hr:rtM GA arm (.mk 43 nm ar n has an ks)=true) (hih:∀k∈ks,PT k) (hz:nn (.mk 43 nm ar n has an ks)<=4096):PT (.mk 43 nm ar n has an ks):=by
 obtain⟨a1,a2,a3,a4,a5,a6,a7⟩:=G7 (op:=43) (x:=true) (y:=false) (c:=1) (v:=0) rfl hr;obtain⟨hSa,hSn,hSr⟩:=hS;obtain⟨hWa,hWn⟩:=hW;have zn:Fz nm:=by unfold Fz;omega
 obtain⟨a,rfl,ra⟩:=a15 a6 a7;rw[a1E] at hz;have pa:1<=nn a:=r9 a;obtain⟨d,X,kX,hd,zX,tX,qX,atX,siX⟩:=L8 (hih a (by simp)) ra (by omega);have fX:Fz X:=by unfold Fz;omega
 have k0:(rM [a])[0]?=some (tC d):=by rw[B4 (t:=a) rfl,hd]
 have sX:=a2s (k:=kX) (r:=5) (X:=X);have gX:Fz (atB kX (5) X):=by unfold Fz;omega
 obtain⟨S,hSS⟩:∃S:ByteArray,S=atB kX 5 X++⟨⟨[46]⟩⟩++nm:=⟨_,rfl⟩
 have hsz:S.size<=268435456 * nn (Tm.mk 43 nm ar n has an [a]):=by
  clear a1 a2 a3 a4 a5 a6 a7;rw[hSS,a1E];simp only[ByteArray.size_append,U0,List.length_cons,List.length_nil];omega
 exact a0g (by decide) (by decide) (by decide) S hsz λx0 x1 x2 x3 hx=>⟨by rw[hSS];exact c1X k0 (siX 5) gX zn,by rw[hSS];exact ptl (by decide) (c1H k0 (atX 5) gX zn)⟩
theorem c2s (hS:SmT (.mk 44 nm ar n has an ks)) (hW:WfT (.mk 44 nm ar n has an ks)) (hr:rtM GA arm (.mk 44 nm ar n has an ks)=true) (hih:∀k∈ks,PT k) (hz:nn (.mk 44 nm ar n has an ks)<=4096):PT (.mk 44 nm ar n has an ks):=by
 obtain⟨a1,a2,a3,a4,a5,a6,a7⟩:=G7 (op:=44) (x:=true) (y:=false) (c:=1) (v:=0) rfl hr;obtain⟨hSa,hSn,hSr⟩:=hS;obtain⟨hWa,hWn⟩:=hW;have zn:Fz nm:=by unfold Fz;omega
 obtain⟨a,rfl,ra⟩:=a15 a6 a7;rw[a1E] at hz;have pa:1<=nn a:=r9 a;obtain⟨d,X,kX,hd,zX,tX,qX,atX,siX⟩:=L8 (hih a (by simp)) ra (by omega);have fX:Fz X:=by unfold Fz;omega
 have k0:(rM [a])[0]?=some (tC d):=by rw[B4 (t:=a) rfl,hd]
 have sX:=a2s (k:=kX) (r:=5) (X:=X);have gX:Fz (atB kX (5) X):=by unfold Fz;omega
 obtain⟨S,hSS⟩:∃S:ByteArray,S=atB kX 5 X++⟨⟨[92]⟩⟩++nm:=⟨_,rfl⟩
 have hsz:S.size<=268435456 * nn (Tm.mk 44 nm ar n has an [a]):=by
  clear a1 a2 a3 a4 a5 a6 a7;rw[hSS,a1E];simp only[ByteArray.size_append,U0,List.length_cons,List.length_nil];omega
 exact a0g (by decide) (by decide) (by decide) S hsz λx0 x1 x2 x3 hx=>⟨by rw[hSS];exact c1Y k0 (siX 5) gX zn,by rw[hSS];exact ptl (by decide) (c1I k0 (atX 5) gX zn)⟩
theorem c2t (hS:SmT (.mk 45 nm ar n has an ks)) (hW:WfT (.mk 45 nm ar n has an ks)) (hr:rtM GA arm (.mk 45 nm ar n has an ks)=true) (hih:∀k∈ks,PT k) (hz:nn (.mk 45 nm ar n has an ks)<=4096):PT (.mk 45 nm ar n has an ks):=by
 obtain⟨a1,a2,a3,a4,a5,a6,a7⟩:=G7 (op:=45) (x:=true) (y:=false) (c:=2) (v:=0) rfl hr;obtain⟨hSa,hSn,hSr⟩:=hS;obtain⟨hWa,hWn⟩:=hW;have zn:Fz nm:=by unfold Fz;omega
 obtain⟨a,b,rfl,ra,rb⟩:=a6Z a6 a7;rw[a7a] at hz;have pa:1<=nn a:=r9 a;have pb:1<=nn b:=r9 b;obtain⟨d,X,kX,hd,zX,tX,qX,atX,siX⟩:=L8 (hih a (by simp)) ra (by omega);have fX:Fz X:=by unfold Fz;omega
 obtain⟨e,Y,kY,he,zY,tY,qY,atY,siY⟩:=L8 (hih b (by simp)) rb (by omega);have fY:Fz Y:=by unfold Fz;omega
 have k0:(rM [a,b])[0]?=some (tC d):=by rw[B4 (t:=a) rfl,hd]
 have k1:(rM [a,b])[1]?=some (tC e):=by rw[B4 (t:=b) rfl,he]
 obtain⟨S,hSS⟩:∃S:ByteArray,S=⟨⟨[123]⟩⟩++nm++⟨⟨[32,58,61,32]⟩⟩++X++⟨⟨[32,124,32]⟩⟩++Y++⟨⟨[125]⟩⟩:=⟨_,rfl⟩
 have hsz:S.size<=268435456 * nn (Tm.mk 45 nm ar n has an [a,b]):=by
  clear a1 a2 a3 a4 a5 a6 a7;rw[hSS,a7a];simp only[ByteArray.size_append,U0,List.length_cons,List.length_nil];omega
 exact a0g (by decide) (by decide) (by decide) S hsz λx0 x1 x2 x3 hx=>⟨by rw[hSS];exact c1Z k0 k1 qX fX qY fY zn,by rw[hSS];exact ptl (by decide) (c1K k0 k1 tX fX tY fY zn)⟩
theorem c2u (hS:SmT (.mk 46 nm ar n has an ks)) (hW:WfT (.mk 46 nm ar n has an ks)) (hr:rtM GA arm (.mk 46 nm ar n has an ks)=true) (hih:∀k∈ks,PT k) (hz:nn (.mk 46 nm ar n has an ks)<=4096):PT (.mk 46 nm ar n has an ks):=by
 obtain⟨a1,a2,a3,a4,a5,a6,a7⟩:=G7 (op:=46) (x:=true) (y:=false) (c:=1) (v:=0) rfl hr;obtain⟨hSa,hSn,hSr⟩:=hS;obtain⟨hWa,hWn⟩:=hW;have zn:Fz nm:=by unfold Fz;omega
 obtain⟨a,rfl,ra⟩:=a15 a6 a7;rw[a1E] at hz;have pa:1<=nn a:=r9 a;obtain⟨d,X,kX,hd,zX,tX,qX,atX,siX⟩:=L8 (hih a (by simp)) ra (by omega);have fX:Fz X:=by unfold Fz;omega
 have k0:(rM [a])[0]?=some (tC d):=by rw[B4 (t:=a) rfl,hd]
 have sX:=a2s (k:=kX) (r:=4) (X:=X);have gX:Fz (atB kX (4) X):=by unfold Fz;omega
 obtain⟨S,hSS⟩:∃S:ByteArray,S=⟨⟨[64]⟩⟩++nm++⟨⟨[32]⟩⟩++atB kX 4 X:=⟨_,rfl⟩
 have hsz:S.size<=268435456 * nn (Tm.mk 46 nm ar n has an [a]):=by
  clear a1 a2 a3 a4 a5 a6 a7;rw[hSS,a1E];simp only[ByteArray.size_append,U0,List.length_cons,List.length_nil];omega
 exact a0g (by decide) (by decide) (by decide) S hsz λx0 x1 x2 x3 hx=>⟨by rw[hSS];exact c2a k0 (siX 4) gX zn,by rw[hSS];exact ptl (by decide) (c1F k0 (atX 4) gX zn)⟩
theorem c2v (hS:SmT (.mk 47 nm ar n has an ks)) (hW:WfT (.mk 47 nm ar n has an ks)) (hr:rtM GA arm (.mk 47 nm ar n has an ks)=true) (hih:∀k∈ks,PT k) (hz:nn (.mk 47 nm ar n has an ks)<=4096):PT (.mk 47 nm ar n has an ks):=by
 obtain⟨a1,a2,a3,a4,a5,a6,a7⟩:=G7 (op:=47) (x:=true) (y:=false) (c:=1) (v:=0) rfl hr;obtain⟨hSa,hSn,hSr⟩:=hS;obtain⟨hWa,hWn⟩:=hW;have zn:Fz nm:=by unfold Fz;omega
 obtain⟨a,rfl,ra⟩:=a15 a6 a7;rw[a1E] at hz;have pa:1<=nn a:=r9 a;obtain⟨d,X,kX,hd,zX,tX,qX,atX,siX⟩:=L8 (hih a (by simp)) ra (by omega);have fX:Fz X:=by unfold Fz;omega
 have k0:(rM [a])[0]?=some (tC d):=by rw[B4 (t:=a) rfl,hd]
 have sX:=a2s (k:=kX) (r:=4) (X:=X);have gX:Fz (atB kX (4) X):=by unfold Fz;omega
 obtain⟨S,hSS⟩:∃S:ByteArray,S=⟨⟨[94]⟩⟩++nm++⟨⟨[32]⟩⟩++atB kX 4 X:=⟨_,rfl⟩
 have hsz:S.size<=268435456 * nn (Tm.mk 47 nm ar n has an [a]):=by
  clear a1 a2 a3 a4 a5 a6 a7;rw[hSS,a1E];simp only[ByteArray.size_append,U0,List.length_cons,List.length_nil];omega
 exact a0g (by decide) (by decide) (by decide) S hsz λx0 x1 x2 x3 hx=>⟨by rw[hSS];exact c2b k0 (siX 4) gX zn,by rw[hSS];exact ptl (by decide) (c1G k0 (atX 4) gX zn)⟩
theorem c2w (hS:SmT (.mk 51 nm ar n has an ks)) (hW:WfT (.mk 51 nm ar n has an ks)) (hr:rtM GA arm (.mk 51 nm ar n has an ks)=true) (hih:∀k∈ks,PT k) (hz:nn (.mk 51 nm ar n has an ks)<=4096):PT (.mk 51 nm ar n has an ks):=by
 obtain⟨a1,a2,a3,a4,a5,a6,a7⟩:=G7 (op:=51) (x:=false) (y:=false) (c:=1) (v:=2) rfl hr;obtain⟨hSa,hSn,hSr⟩:=hS;obtain⟨hWa,hWn⟩:=hW;have zn:Fz nm:=by unfold Fz;omega
 obtain⟨a,rfl,ra⟩:=a15 a6 a7;rw[a1E] at hz;have pa:1<=nn a:=r9 a;obtain⟨d,X,kX,hd,zX,tX,qX,atX,siX⟩:=L8 (hih a (by simp)) ra (by omega);have fX:Fz X:=by unfold Fz;omega
 have k0:(rM [a])[0]?=some (tC d):=by rw[B4 (t:=a) rfl,hd]
 have hg:GA an=true:=by
  cases has
  ·cases a3
  ·rw[if_pos rfl,Bool.and_eq_true] at a3;exact a3.2
 obtain⟨P,zP,hP⟩:=b2X hSa hWa hg;have fP:Fz P:=by unfold Fz;omega
 obtain⟨S,hSS⟩:∃S:ByteArray,S=⟨⟨[40]⟩⟩++X++⟨⟨[32,58,32]⟩⟩++P++⟨⟨[41]⟩⟩:=⟨_,rfl⟩
 have hsz:S.size<=268435456 * nn (Tm.mk 51 nm ar n has an [a]):=by
  clear a1 a2 a3 a4 a5 a6 a7;rw[hSS,a1E];simp only[ByteArray.size_append,U0,List.length_cons,List.length_nil];omega
 exact a0g (by decide) (by decide) (by decide) S hsz λx0 x1 x2 x3 hx=>⟨by rw[hSS];exact c2e k0 qX fX (hP _ _ _ _ hx).2 fP,by rw[hSS];exact ptl (by decide) (c1M k0 tX fX (hP _ _ _ _ hx).1 fP)⟩
end
end
section
theorem c1d (b:Tm):∃c:Nat->D,cM b=[.sc (.int .u8 (opM b)),c 1,c 2,c 3,c 4,c 5,c 6,c 7,c 8,c 9]:=by
 obtain⟨nm,ar,n,h,ks,x5,x6,x7,x8,e⟩:=b1Q b;exact⟨λk=>match k with|1=>.sc (.string nm)|2=>.sc (.string ar)|3=>.sc (.int .i64 n)|4=>.sc (.bool h)|5=>x5|6=>x6|7=>x7|8=>x8|_=>.sl 10 (rM ks),e⟩
theorem b6i {ps:List ByteArray} {o:Int} {U:ByteArray}:(E8 ps ⟨⟨[44,32]⟩⟩).size<=(a2D ps o U).size:=by
 unfold a2D
 split
 ·exact Nat.le_refl _
 ·rw[ByteArray.size_append];omega
theorem b0C {p q:ByteArray} {ps:List ByteArray} {o:Int} {U:ByteArray}:a2D (p::q::ps) o U=p++⟨⟨[44,32]⟩⟩++a2D (q::ps) o U:=by
 unfold a2D;rw[L5]
 split
 ·rfl
 ·simp only[ByteArray.append_assoc]
section
variable {op n:Int} {nm ar:ByteArray} {has arm:Bool} {an:Ty} {ks:List Tm}
theorem b7L {a b:Tm} {d:Nat->D} {X:ByteArray} {k:Int} (zn:nm.size<=1048576) (hd:KP a d X k) (hb:PT b) (hrb:rtM GA false b=true) (hz:nn (.mk 42 nm ar n has an [a,b])<=4096):FT (.mk 42 nm ar n has an [a,b]):=by
 obtain⟨hda,zX,tX,qX,-,-⟩:=hd;have pa:1<=nn a:=r9 a;have pb:1<=nn b:=r9 b;rw[a7a] at hz;have fX:Fz X:=by unfold Fz;omega
 have fn:Fz nm:=by unfold Fz;omega
 obtain⟨x0,x1,x2,x3,hx⟩:=l6 an;have hc:cM (.mk 42 nm ar n has an [a,b])=nC 42 nm ar n has x0 x1 x2 x3 (rM [a,b]):=by rw[cM,hx];rfl
 obtain⟨c,hcb⟩:=c1d b;have k0:(rM [a,b])[0]?=some (tC d):=by rw[B4 (t:=a) rfl,hda]
 have k1:(rM [a,b])[1]?=some (cM b):=B4 (t:=b) rfl;rw[hcb] at k1;have tXa:Tx a X:=⟨fX,by rw[hda];exact tX⟩;obtain⟨P,hP⟩:∃P:ByteArray,P=nm++⟨⟨[32,61,32]⟩⟩++X:=⟨_,rfl⟩;have zP:P.size<=1048579+268435456 * nn a:=by rw[hP];simp only[ByteArray.size_append,U0,List.length_cons,List.length_nil];omega
 unfold FT;rw[a7a,hc]
 by_cases h42:opM b=42
 ·obtain⟨s,-,-,-,-,hF⟩:=hb;obtain⟨P0,PS,u,U,hch,hl,hu,hsp,hsz⟩:=hF h42;rw[hcb,h42] at hsp;rw[h42] at k1;obtain⟨F,hFF⟩:∃F,F=a2D (P0::PS) (opM u) U:=⟨_,rfl⟩;rw[<-hFF] at hsp hsz;have fF:Fz F:=by unfold Fz;omega
  refine⟨P,P0::PS,u,U,by rw[hP];exact Ch.cons fn tXa hch,by rw[List.length_cons];omega,hu,?_,?_⟩
  ·rw[b0C,<-hFF,hP];exact b9B k0 k1 qX fX fn hsp fF
  ·rw[b0C,<-hFF];simp only[ByteArray.size_append,U0,List.length_cons,List.length_nil];omega
 ·by_cases h41:opM b=41
  ·rw[h41] at k1;refine⟨P,[],b,⟨⟨[]⟩⟩,by rw[hP];exact Ch.cons fn tXa (Ch.nil b h42),by simp only[List.length_cons,List.length_nil];omega,λh=>absurd h41 h,?_,?_⟩
   ·unfold a2D;rw[if_pos h41,M8,hP];exact b9C k0 k1 qX fX fn
   ·unfold a2D;rw[if_pos h41,M8];omega
  ·obtain⟨e,U,kb,hdb,zU,tU,qU,-,-⟩:=L8 hb hrb (by omega);have fU:Fz U:=by unfold Fz;omega
   rw[<-hdb,hcb] at qU;refine⟨P,[],b,U,by rw[hP];exact Ch.cons fn tXa (Ch.nil b h42),by simp only[List.length_cons,List.length_nil];omega,λ_=>⟨fU,by rw[hdb];exact tU⟩,?_,?_⟩
   ·unfold a2D;rw[if_neg h41,M8,hP,<-ByteArray.append_assoc];exact b9D ⟨h42,h41⟩ k0 k1 qX fX fn qU fU
   ·unfold a2D;rw[if_neg h41,M8];simp only[ByteArray.size_append,U0,List.length_cons,List.length_nil];omega
theorem c2x (hS:SmT (.mk 42 nm ar n has an ks)) (hr:rtM GA arm (.mk 42 nm ar n has an ks)=true) (hih:∀k∈ks,PT k) (hz:nn (.mk 42 nm ar n has an ks)<=4096):PT (.mk 42 nm ar n has an ks):=by
 obtain⟨a1,a2,a3,a4,a5,a6,a7⟩:=G7 (op:=42) (x:=true) (y:=false) (c:=2) (v:=0) rfl hr;obtain⟨hSa,hSn,hSr⟩:=hS;obtain⟨a,b,rfl,ra,rb⟩:=a6Z a6 a7;clear a1 a2 a3 a4 a5 a6 a7;have hz2:=hz;rw[a7a] at hz2;have pb:1<=nn b:=r9 b;obtain⟨d,X,k,hd⟩:=L8 (hih a (by simp)) ra (by omega);have hF:=b7L hSn hd (hih b (by simp)) rb hz;have hF2:=hF;obtain⟨P0,PS,u,U,hch,hl,hu,hsp,hsz⟩:=hF2;have hj:=b6i (ps:=P0::PS) (o:=opM u) (U:=U);have hp:=c0U _ u P0 PS U hch (by omega) (by unfold Fz;omega) hu;obtain⟨F,hFF⟩:∃F,F=a2D (P0::PS) (opM u) U:=⟨_,rfl⟩;rw[<-hFF] at hsp hsz hp;have fF:Fz F:=by unfold Fz;omega
 obtain⟨x0,x1,x2,x3,hx⟩:=l6 an;have hc:cM (.mk 42 nm ar n has an [a,b])=nC 42 nm ar n has x0 x1 x2 x3 (rM [a,b]):=by rw[cM,hx];rfl
 obtain⟨S,hSS⟩:∃S:ByteArray,S=⟨⟨[123]⟩⟩++F++⟨⟨[125]⟩⟩:=⟨_,rfl⟩;refine⟨S,?_,?_,λ_ _=>?_,λh=>absurd h (by rintro (h|h) <;> cases h),λ_=>hF⟩
 ·rw[hSS];simp only[ByteArray.size_append,U0,List.length_cons,List.length_nil];omega
 ·rw[hc] at hsp ⊢;rw[hSS];exact c1W hsp fF
 ·rw[hc] at hp ⊢;rw[hSS];exact ptl (by decide) (c1J hp fF)
theorem c2y (hS:SmT (.mk 49 nm ar n has an ks)) (hr:rtM GA arm (.mk 49 nm ar n has an ks)=true) (hih:∀k∈ks,PT k) (hz:nn (.mk 49 nm ar n has an ks)<=4096):PT (.mk 49 nm ar n has an ks):=by
 obtain⟨a1,a2,a3,a4,a5,a6,a7⟩:=G7 (op:=49) (x:=true) (y:=true) (c:=1) (v:=0) rfl hr;obtain⟨hSa,hSn,hSr⟩:=hS;obtain⟨a,rfl,ra⟩:=a15 a6 a7;clear a1 a2 a3 a4 a5 a6 a7;rw[a1E] at hz;obtain⟨d,X,k,hd,zX,tX,qX,-,-⟩:=L8 (hih a (by simp)) ra (by omega);have fX:Fz X:=by unfold Fz;omega
 have zn:Fz nm:=by unfold Fz;omega
 have za:Fz ar:=by unfold Fz;omega
 have k0:(rM [a])[0]?=some (tC d):=by rw[B4 (t:=a) rfl,hd]
 obtain⟨x0,x1,x2,x3,hx⟩:=l6 an;have hc:cM (.mk 49 nm ar n has an [a])=nC 49 nm ar n has x0 x1 x2 x3 (rM [a]):=by rw[cM,hx];rfl
 obtain⟨S,hSS⟩:∃S:ByteArray,S=nm++⟨⟨[32]⟩⟩++ar++⟨⟨[32,61,62,32]⟩⟩++X:=⟨_,rfl⟩;refine⟨S,?_,?_,λh=>absurd rfl h,λ_=>⟨⟨⟨[32,61,62,32]⟩⟩++X,?_,zn,za,?_,?_⟩,λh=>by cases h⟩
 ·rw[hSS,a1E];simp only[ByteArray.size_append,U0,List.length_cons,List.length_nil];omega
 ·rw[hc,hSS];exact c2c k0 qX fX zn za
 ·unfold Fz;simp only[ByteArray.size_append,U0,List.length_cons,List.length_nil];omega
 ·rw[hc];exact b2U k0 tX fX
 ·rw[hSS];unfold b7F;rw[if_neg (by decide)];simp only[ByteArray.append_assoc]
theorem c2z (hS:SmT (.mk 50 nm ar n has an ks)) (hr:rtM GA arm (.mk 50 nm ar n has an ks)=true) (hih:∀k∈ks,PT k) (hz:nn (.mk 50 nm ar n has an ks)<=4096):PT (.mk 50 nm ar n has an ks):=by
 obtain⟨a1,a2,a3,a4,a5,a6,a7⟩:=G7 (op:=50) (x:=false) (y:=true) (c:=1) (v:=0) rfl hr;obtain⟨hSa,hSn,hSr⟩:=hS;obtain⟨a,rfl,ra⟩:=a15 a6 a7;clear a1 a2 a3 a4 a5 a6 a7;rw[a1E] at hz;obtain⟨d,X,k,hd,zX,tX,qX,-,-⟩:=L8 (hih a (by simp)) ra (by omega);have fX:Fz X:=by unfold Fz;omega
 have zn:Fz nm:=by unfold Fz;omega
 have za:Fz ar:=by unfold Fz;omega
 have k0:(rM [a])[0]?=some (tC d):=by rw[B4 (t:=a) rfl,hd]
 obtain⟨x0,x1,x2,x3,hx⟩:=l6 an;have hc:cM (.mk 50 nm ar n has an [a])=nC 50 nm ar n has x0 x1 x2 x3 (rM [a]):=by rw[cM,hx];rfl
 obtain⟨S,hSS⟩:∃S:ByteArray,S=⟨⟨[101,108,115,101,32]⟩⟩++ar++⟨⟨[32,61,62,32]⟩⟩++X:=⟨_,rfl⟩;refine⟨S,?_,?_,λ_ h=>absurd rfl h,λ_=>⟨⟨⟨[32,61,62,32]⟩⟩++X,?_,zn,za,?_,?_⟩,λh=>by cases h⟩
 ·rw[hSS,a1E];simp only[ByteArray.size_append,U0,List.length_cons,List.length_nil];omega
 ·rw[hc,hSS];exact c2d k0 qX fX za
 ·unfold Fz;simp only[ByteArray.size_append,U0,List.length_cons,List.length_nil];omega
 ·rw[hc];exact b2U k0 tX fX
 ·rw[hSS];unfold b7F;rw[if_pos rfl,show (⟨⟨[101,108,115,101]⟩⟩++⟨⟨[32]⟩⟩:ByteArray)=⟨⟨[101,108,115,101,32]⟩⟩ from rfl];simp only[ByteArray.append_assoc]
end
end
section
theorem a7m (p sep:ByteArray) (ps:List ByteArray):(E8 (p::ps) sep).size<=p.size+sep.size+(E8 ps sep).size:=by
 cases ps with
 | nil=>rw[M8];omega
 | cons q l=>rw[L5,ByteArray.size_append,ByteArray.size_append];omega
theorem a5x (k:Tm) (ks:List Tm):(A9 (k::ks)).length=nn k+(A9 ks).length:=by rw[A9,List.length_append]
theorem b6j:∀(ks:List Tm),(∀k∈ks,PT k)->rtK GA true false ks=true->(A9 ks).length<=4096->∃ps:List ByteArray,ps.length=ks.length/\ks.length<=(A9 ks).length/\(∀(i:Nat) (k:Tm) (s:ByteArray),ks[i]?=some k->ps[i]?=some s->Am k s/\Fz s/\j5 8 [.ag (cM k)] [.one (.sc (.string s))])/\(E8 ps ⟨⟨[59,32]⟩⟩).size<=268435458 * (A9 ks).length
 | [],_,_,_=>⟨[],rfl,Nat.zero_le _,λi k s h _=>by simp at h,Nat.zero_le _⟩
 | k::ks,hp,hr,hz=>by
  rw[a5x] at hz;rw[rtK] at hr;simp only[Bool.and_eq_true] at hr;have hk:rtM GA true k=true:=hr.1;have h1:1<=nn k:=r9 k;obtain⟨ps,e1,e2,e3,e4⟩:=b6j ks (λx hx=>hp x (List.mem_cons_of_mem _ hx)) hr.2.2 (by omega);obtain⟨s,s1,s2,-,s4,-⟩:=hp k (List.mem_cons_self ..);have s4:=s4 (b6b hk);have hj:=a7m s ⟨⟨[59,32]⟩⟩ ps;rw[show (⟨⟨[59,32]⟩⟩:ByteArray).size=2 from rfl] at hj;refine⟨s::ps,by rw[List.length_cons,List.length_cons,e1],by rw[a5x,List.length_cons];omega,λi x y hx hy=>?_,by rw[a5x];omega⟩;cases i with
  | zero =>
   have hx:k=x:=by simpa using hx
   have hy:s=y:=by simpa using hy
   rw[<-hx,<-hy];exact⟨s4,by unfold Fz;omega,s2⟩
  | succ i=>exact e3 i x y (by simpa using hx) (by simpa using hy)
section
variable {op n:Int} {nm ar:ByteArray} {has arm:Bool} {an:Ty} {ks:List Tm}
theorem c20 (hS:SmT (.mk 48 nm ar n has an ks)) (hr:rtM GA arm (.mk 48 nm ar n has an ks)=true) (hih:∀k∈ks,PT k) (hz:nn (.mk 48 nm ar n has an ks)<=4096):PT (.mk 48 nm ar n has an ks):=by
 obtain⟨a1,a2,a3,a4,a5,a6,a7⟩:=G7 (op:=48) (x:=false) (y:=false) (c:=99) (v:=0) rfl hr;have hl:0<ks.length:=of_decide_eq_true a6;have a7:rtK GA true true ks=true:=a7;cases ks with
 | nil=>cases hl
 | cons k0 ks =>
  rw[rtK] at a7;simp only[Bool.and_eq_true] at a7;have r0:rtM GA false k0=true:=a7.1
  have hnn:nn (.mk 48 nm ar n has an (k0::ks))=1+nn k0+(A9 ks).length:=by
   show (l4 _).length=_;rw[l4,List.length_cons,a5x];omega
  rw[hnn] at hz;have p0:1<=nn k0:=r9 k0;obtain⟨ps,e1,e2,e3,e4⟩:=b6j ks (λx hx=>hih x (List.mem_cons_of_mem _ hx)) a7.2.2 (by omega);obtain⟨d,X,k,hd,zX,tX,qX,-,-⟩:=L8 (hih k0 (List.mem_cons_self ..)) r0 (by omega);clear a1 a2 a3 a4 a5 a6 a7;have fX:Fz X:=by unfold Fz;omega
  have fJ:Fz (E8 ps ⟨⟨[59,32]⟩⟩):=by unfold Fz;omega
  rw[<-hd] at tX qX;have hc:=c0V (op:=48) (nm:=nm) (ar:=ar) (n:=n) (h:=has) (an:=an) (k0:=k0) (ks:=ks) (ps:=ps) ⟨fX,tX⟩ ⟨e1,λi k s h1 h2=>(e3 i k s h1 h2).1⟩ (by omega) fJ;have hq:=c2g (n:=n) (nm:=nm) (ar:=ar) (has:=has) (an:=an) (k0:=k0) (ks:=ks) (ps:=ps) ⟨fX,qX⟩ e1 (λi k s h1 h2=>(e3 i k s h1 h2).2) (by omega) fJ;obtain⟨S,hSS⟩:∃S,S=b07 X ps:=⟨_,rfl⟩;rw[<-hSS] at hc hq
  have hSz:S.size<=268435456 * (1+nn k0+(A9 ks).length):=by
   rw[hSS];unfold b07
   split
   ·simp only[ByteArray.size_append,U0,List.length_cons,List.length_nil];omega
   ·simp only[ByteArray.size_append,U0,List.length_cons,List.length_nil];omega
  have fS:Fz S:=by unfold Fz;omega
  refine⟨S,by rw[hnn];exact hSz,hq,λ_ _=>?_,λh=>absurd h (by rintro (h|h) <;> cases h),λh=>by cases h⟩;obtain⟨x0,x1,x2,x3,hx⟩:=l6 an;have hcc:cM (.mk 48 nm ar n has an (k0::ks))=nC 48 nm ar n has x0 x1 x2 x3 (rM (k0::ks)):=by rw[cM,hx];rfl
  rw[hcc] at hc ⊢;exact ptl (by decide) (c1L hc fS)
end
theorem b2Y {G:Ty->Bool} {cs:Bool}:∀ {ks:List Tm} {f:Bool} {k:Tm},rtK G cs f ks=true->k∈ks->∃arm,rtM G arm k=true
 | k::ks,f,x,h,hx=>by
  rw[rtK] at h;simp only[Bool.and_eq_true] at h
  rcases List.mem_cons.1 hx with rfl|hx
  ·exact⟨_,h.1⟩
  ·exact b2Y h.2.2 hx
theorem b9K:∀t:Tm,nn t<=4096->(∀x∈l4 t,SmT x/\WfT x)->∀arm,rtM GA arm t=true->PT t:=by
 intro t
 induction t using Tm.ind with
 | h op nm ar n b a ks ih =>
  intro hN hS arm hr;have hself:=hS _ (by rw[l4];exact List.mem_cons_self ..);obtain⟨hSm,hWf⟩:=hself
  have hih:∀k∈ks,PT k:=λk hk=>by
   have hsub:∀x∈l4 k,x∈l4 (.mk op nm ar n b a ks):=λx hx=>by
    rw[l4,I3];exact List.mem_cons_of_mem _ (List.mem_flatMap.2 ⟨k,hk,hx⟩)
   have hr2:=hr;rw[rtM,Bool.and_eq_true] at hr2;obtain⟨arm',h'⟩:=b2Y hr2.2 hk;refine ih k hk ?_ (λx hx=>hS x (hsub x hx)) arm' h';obtain⟨i,hi,e⟩:=List.getElem_of_mem hk;have h1:=a66 l4 ks i k (by rw[List.getElem?_eq_getElem hi,e]);have h2:nn (.mk op nm ar n b a ks)=1+(ks.flatMap l4).length:=by show (l4 _).length=_;rw[l4,I3,List.length_cons];omega
   show (l4 k).length<=4096;omega
  obtain⟨q,hq⟩:=b6g hr
  rcases b6f hq with rfl|(rfl|rfl|rfl|rfl|rfl|rfl|rfl|rfl)|(rfl|rfl|rfl|rfl|rfl|rfl|rfl|rfl|rfl|rfl|rfl)
  ·exact c2p hSm hWf hr hih hN
  ·exact c2h hSm hWf hr hih hN
  ·exact c2i hSm hWf hr hih hN
  ·exact c2j hSm hWf hr hih hN
  ·exact c2k hSm hWf hr hih hN
  ·exact c2l hSm hWf hr hih hN
  ·exact c2m hSm hWf hr hih hN
  ·exact c2n hSm hWf hr hih hN
  ·exact c2o hSm hWf hr hih hN
  ·exact c2q hSm hWf hr hih hN
  ·exact c2x hSm hr hih hN
  ·exact c2r hSm hWf hr hih hN
  ·exact c2s hSm hWf hr hih hN
  ·exact c2t hSm hWf hr hih hN
  ·exact c2u hSm hWf hr hih hN
  ·exact c2v hSm hWf hr hih hN
  ·exact c20 hSm hr hih hN
  ·exact c2y hSm hr hih hN
  ·exact c2z hSm hr hih hN
  ·exact c2w hSm hWf hr hih hN
end
end Go.Proofs.YtncijebklnbhlaaGreatDoor.Vm
end
