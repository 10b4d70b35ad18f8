/- Part 17 of the proof. Conditions: none. -/
import Derived.Test.YtdjnoafijjepcaaGreatT4
import Derived.Test.YtdjnoafijjepcaaGreatT6
import Derived.Test.YtdjnoafijjepcaaGreatT10
import Derived.Test.YtdjnoafijjepcaaGreatT14
import Derived.Test.YtdjnoafijjepcaaGreatT16
import Derived.IntWalk
import Derived.Test.YtdjnoafijjepcaaGreatT0
set_option linter.all false
set_option linter.unusedVariables false
set_option linter.unusedSimpArgs false
section
namespace Go.Proofs.YtdjnoafijjepcaaGreat.Vm
open Go.RowKit
set_option maxRecDepth 100000
set_option maxHeartbeats 4000000
theorem d1V {ts:List Tok} (hE:y5 ts) (hl:ts.length<=65537) {m:Nat} {L:Int} (hL1:0<=L) (hL2:L<=1048576) (hm:m=0/\200<L+1\/m≠0/\L+1<=200) {nx pr:PF} (hf:E3 ts pr) (hx:∀p:PE,p.1<ts.length->N2 100 [vi .i64 L] ts p [.ag (C0 (cP (nx p).1))] (nx p).2)
  (hr:m≠0->∀p:PE,p.1<ts.length->p.2=0->N2 91 [vi .i64 (L+1)] ts p [.ag (C0 (cP (pr p).1))] (pr p).2) {p:PE} (hp:p.1<ts.length) :
  N2 91 [vi .i64 L] ts p [.ag (C0 (cP (a2F ts m nx pr p).1))] (a2F ts m nx pr p).2:=by
 have hl2:ts.length<=1048576:=by omega
 have h0:=a54 hl2 hp;have hsg:=b02 hl2 hp [gAt,a85] (by decide);unfold a2M at hsg;unfold a2F
 by_cases s1:B1 ts gAt p=true
 ·rw[d3I s1];rw[show w9 ts [gAt,a85] p=some gAt by rw[w9,d3I s1]] at hsg;obtain⟨k1,k2⟩:=o9 hE hp s1;have h2:=a1S hl2 (p:=(p.1+1,0)) k1;obtain⟨b1,_,_⟩:=r8 hE (p:=(p.1+1,0)) k1;have h3:=b3j hl2 b1 hm;unfold a4O
  split
  ·rename_i hd
   have hq:(M5 m (j7 ts (p.1+1,0)).2).2≠0:=by
    unfold M5
    by_cases h:m=0
    ·rw[d3I h];exact(C8 6 (by decide) _).2
    ·rw[d3G h];exact hd.resolve_left h
   rw[d3T hq] at h3;simp only;rw[b2f];exact c3d hL1 hL2 h0 hsg h2 h3
  ·rename_i hd;have hm0:m≠0:=λh=>hd (.inl h)
   have hq:(j7 ts (p.1+1,0)).2.2=0:=by
    by_cases h0:(j7 ts (p.1+1,0)).2.2=0
    ·exact h0
    ·exact absurd (.inr h0) hd
   rw[show M5 m (j7 ts (p.1+1,0)).2=(j7 ts (p.1+1,0)).2 by unfold M5;rw[d3G hm0],hq] at h3;have h4:=hr hm0 _ b1 hq;have hb:=hf _ b1;have i1:=hb.sz;have i2:=hb.hi;obtain⟨x,hxx⟩:=F5 (pr (j7 ts (p.1+1,0)).2).1;obtain⟨z,hz⟩:=F5 (A9 46 (j7 ts (p.1+1,0)).1 ⟨#[]⟩ (r9 ts p.1).at_ [(pr (j7 ts (p.1+1,0)).2).1]);have ho:=a23 46 (j7 ts (p.1+1,0)).1 ⟨#[]⟩ 0 false (r9 ts p.1).at_ [(pr (j7 ts (p.1+1,0)).2).1] (by simp) (by simp only[d4m,d4t,d4d];omega);rw[show cP (C9 46 (j7 ts (p.1+1,0)).1 ⟨#[]⟩ 0 false v8 (r9 ts p.1).at_ [(pr (j7 ts (p.1+1,0)).2).1])=cE z from hz,show rP [(pr (j7 ts (p.1+1,0)).2).1]=[cE x] by unfold rP;rw[d4a,d47,hxx]] at ho;rw[hxx] at h4;simp only;rw[hz];exact c6i ho hL1 hL2 h0 hsg h2 h3 h4
 rw[d3G s1]
 by_cases s2:B1 ts a85 p=true
 ·rw[d3I s2];rw[show w9 ts [gAt,a85] p=some a85 by rw[w9,d3G s1,w9,d3I s2]] at hsg;obtain⟨k1,k2⟩:=o9 hE hp s2;have h2:=a1S hl2 (p:=(p.1+1,0)) k1;obtain⟨b1,_,_⟩:=r8 hE (p:=(p.1+1,0)) k1;have h3:=b3j hl2 b1 hm;unfold a4O
  split
  ·rename_i hd
   have hq:(M5 m (j7 ts (p.1+1,0)).2).2≠0:=by
    unfold M5
    by_cases h:m=0
    ·rw[d3I h];exact(C8 6 (by decide) _).2
    ·rw[d3G h];exact hd.resolve_left h
   rw[d3T hq] at h3;simp only;rw[b2f];exact c3e hL1 hL2 h0 hsg h2 h3
  ·rename_i hd;have hm0:m≠0:=λh=>hd (.inl h)
   have hq:(j7 ts (p.1+1,0)).2.2=0:=by
    by_cases h0:(j7 ts (p.1+1,0)).2.2=0
    ·exact h0
    ·exact absurd (.inr h0) hd
   rw[show M5 m (j7 ts (p.1+1,0)).2=(j7 ts (p.1+1,0)).2 by unfold M5;rw[d3G hm0],hq] at h3;have h4:=hr hm0 _ b1 hq;have hb:=hf _ b1;have i1:=hb.sz;have i2:=hb.hi;obtain⟨x,hxx⟩:=F5 (pr (j7 ts (p.1+1,0)).2).1;obtain⟨z,hz⟩:=F5 (A9 47 (j7 ts (p.1+1,0)).1 ⟨#[]⟩ (r9 ts p.1).at_ [(pr (j7 ts (p.1+1,0)).2).1]);have ho:=a23 47 (j7 ts (p.1+1,0)).1 ⟨#[]⟩ 0 false (r9 ts p.1).at_ [(pr (j7 ts (p.1+1,0)).2).1] (by simp) (by simp only[d4m,d4t,d4d];omega);rw[show cP (C9 47 (j7 ts (p.1+1,0)).1 ⟨#[]⟩ 0 false v8 (r9 ts p.1).at_ [(pr (j7 ts (p.1+1,0)).2).1])=cE z from hz,show rP [(pr (j7 ts (p.1+1,0)).2).1]=[cE x] by unfold rP;rw[d4a,d47,hxx]] at ho;rw[hxx] at h4;simp only;rw[hz];exact c6j ho hL1 hL2 h0 hsg h2 h3 h4
 rw[d3G s2];rw[show w9 ts [gAt,a85] p=none by rw[w9,d3G s1,w9,d3G s2,w9]] at hsg;have h2:=hx p hp;obtain⟨x,hxx⟩:=F5 (nx p).1;rw[hxx] at h2 ⊢;exact c3c h0 hsg h2
abbrev a8r:ByteArray:=⟨#[102,117,110]⟩
abbrev a8s:ByteArray:=⟨#[114,101,99]⟩
abbrev b5m:ByteArray:=⟨#[108,101,116]⟩
abbrev gIf:ByteArray:=⟨#[105,102]⟩
abbrev gIn:ByteArray:=⟨#[105,110]⟩
abbrev a39:ByteArray:=⟨#[116,104,101,110]⟩
abbrev a3A:ByteArray:=⟨#[60]⟩
abbrev a3B:ByteArray:=⟨#[61,61]⟩
def c0m (ts:List Tok) (ex:PF) (a:Int) (w:ByteArray×PE):PL×PE:=(A9 38 w.1 ⟨#[]⟩ a [(ex (l6 ts E0 w.2)).1,(ex (l6 ts gIn (ex (l6 ts E0 w.2)).2)).1],(ex (l6 ts gIn (ex (l6 ts E0 w.2)).2)).2)
def ifW (ts:List Tok) (ex:PF) (a:Int) (e:PL×PE):PL×PE:=(A9 39 ⟨#[]⟩ ⟨#[]⟩ a [e.1,(ex (l6 ts a39 e.2)).1,(ex (l6 ts N5 (ex (l6 ts a39 e.2)).2)).1],(ex (l6 ts N5 (ex (l6 ts a39 e.2)).2)).2)
def a86 (ts:List Tok) (sm:PF) (a:Int) (s:PL×PE):PL×PE :=
 if B1 ts a3A s.2=true then (A9 40 a3A ⟨#[]⟩ a [s.1,(sm (s.2.1+1,0)).1],(sm (s.2.1+1,0)).2)
 else if B1 ts a3B s.2=true then (A9 40 a3B ⟨#[]⟩ a [s.1,(sm (s.2.1+1,0)).1],(sm (s.2.1+1,0)).2)
 else s
def a1e (ts:List Tok) (n:Nat) (ex sm:PF) (p:PE):PL×PE :=
 if p.2≠0 then (zPL,p)
 else if B1 ts a8r p=true then G4 ts n ex (r9 ts p.1).at_ false (p.1+1,0)
 else if B1 ts a8s p=true then G4 ts n ex (r9 ts p.1).at_ true (p.1+1,0)
 else if B1 ts b5m p=true then c0m ts ex (r9 ts p.1).at_ (j7 ts (p.1+1,0))
 else if B1 ts gIf p=true then ifW ts ex (r9 ts p.1).at_ (ex (p.1+1,0))
 else a86 ts sm (r9 ts p.1).at_ (sm p)
theorem b2s (ts:List Tok) (n:Nat) (ex sm:PF) (p:PE) (h:p.2≠0):a1e ts n ex sm p=(zPL,p):=by unfold a1e;rw[d3I h]
theorem b33 (op:Int) (nm:ByteArray) (a:Int) (ks:List PL) (hn:ks.length<=1048576) (hf:(ks.flatMap λp=>p.2).length<=1048576):∃z,cP (A9 op nm ⟨#[]⟩ a ks)=cE z/\OvN op nm ⟨#[]⟩ 0 false a (rP ks) z:=by
 obtain⟨z,hz⟩:=F5 (A9 op nm ⟨#[]⟩ a ks);have ho:=a23 op nm ⟨#[]⟩ 0 false a ks hn hf;rw[show cP (C9 op nm ⟨#[]⟩ 0 false v8 a ks)=cE z from hz] at ho;exact⟨z,hz,ho⟩
theorem c9C {ts:List Tok} (hE:y5 ts) (hN:a0c ts) (hl:ts.length<=65537) (n:Nat) (L:Int) (hv:a27 n L) (hn:1<=n) {ex sm:PF} (hf:E3 ts ex) (hsf:E3 ts sm) (hx:∀p:PE,p.1<ts.length->N2 12 [vi .i64 (L+1)] ts p [.ag (C0 (cP (ex p).1))] (ex p).2)
  (hs:∀p:PE,p.1<ts.length->N2 31 [vi .i64 L] ts p [.ag (C0 (cP (sm p).1))] (sm p).2) {p:PE} (hp:p.1<ts.length) :
  N2 12 [vi .i64 L] ts p [.ag (C0 (cP (a1e ts n ex sm p).1))] (a1e ts n ex sm p).2:=by
 have hl2:ts.length<=1048576:=by omega
 have hL:L<=200/\0<=L:=by unfold a27 at hv;omega
 have hn0:n≠0:=by omega
 have hd:=b3j hl2 hp (n:=n) (L:=L) (.inr ⟨hn0,hL.1⟩);rw[show M5 n p=p by unfold M5;rw[d3G hn0]] at hd;have h1:=a54 hl2 hp;unfold a1e
 by_cases h0:p.2=0
 ·rw[d3G (λh=>h h0)];rw[h0] at hd;have g2:=a1a hl2 hp a8r
  by_cases s1:B1 ts a8r p=true
  ·rw[d3I s1];rw[s1,a6W s1] at g2;have h3:=b0D hE hN hl n L hv (by omega) hf hx (r9 ts p.1).at_ false (p:=(p.1+1,0)) (o9 hE hp s1).1;obtain⟨z,hz⟩:=F5 (G4 ts n ex (r9 ts p.1).at_ false (p.1+1,0)).1;rw[hz] at h3 ⊢;exact c9m hd h1 g2 h3
  rw[d3G s1];replace s1:B1 ts a8r p=false:=by simpa using s1
  rw[s1,a6X s1] at g2;have g3:=a1a hl2 hp a8s
  by_cases s2:B1 ts a8s p=true
  ·rw[d3I s2];rw[s2,a6W s2] at g3;have h3:=b0D hE hN hl n L hv (by omega) hf hx (r9 ts p.1).at_ true (p:=(p.1+1,0)) (o9 hE hp s2).1;obtain⟨z,hz⟩:=F5 (G4 ts n ex (r9 ts p.1).at_ true (p.1+1,0)).1;rw[hz] at h3 ⊢;exact c9n hd h1 g2 g3 h3
  rw[d3G s2];replace s2:B1 ts a8s p=false:=by simpa using s2
  rw[s2,a6X s2] at g3;have g4:=a1a hl2 hp b5m
  by_cases s3:B1 ts b5m p=true
  ·rw[d3I s3];rw[s3,a6W s3] at g4;obtain⟨k1,_⟩:=o9 hE hp s3;have h5:=a1S hl2 (p:=(p.1+1,0)) k1;obtain⟨b1,_,_⟩:=r8 hE (p:=(p.1+1,0)) k1;generalize j7 ts (p.1+1,0)=w at *;have h6:=P7 hl2 b1 E0;obtain⟨c1,_,_⟩:=l8 (s:=E0) hE b1;have h7:=hx _ c1;have hb:=hf _ c1;unfold c0m;generalize ex (l6 ts E0 w.2)=e1 at *;have h8:=P7 hl2 hb.hi gIn;obtain⟨c2,_,_⟩:=l8 (s:=gIn) hE hb.hi;have h9:=hx _ c2;have hb2:=hf _ c2;generalize ex (l6 ts gIn e1.2)=e2 at *;have i1:=hb.sz;have i2:=hb.hi;have i3:=hb2.sz;have i4:=hb2.hi;obtain⟨x,hxx⟩:=F5 e1.1;obtain⟨y,hyy⟩:=F5 e2.1;obtain⟨z,hz,ho⟩:=b33 38 w.1 (r9 ts p.1).at_ [e1.1,e2.1] (by simp) (by simp only[d4m,d4t,d4d,d3K];omega);rw[show rP [e1.1,e2.1]=[cE x,cE y] by unfold rP;rw[d4a,d4a,d47,hxx,hyy]] at ho;rw[hxx] at h7;rw[hyy] at h9;simp only;rw[hz];exact c9o ho hL.2 (by omega) hd h1 g2 g3 g4 h5 h6 h7 h8 h9
  rw[d3G s3];replace s3:B1 ts b5m p=false:=by simpa using s3
  rw[s3,a6X s3] at g4;have g5:=a1a hl2 hp gIf
  by_cases s4:B1 ts gIf p=true
  ·rw[d3I s4];rw[s4,a6W s4] at g5;obtain⟨k1,_⟩:=o9 hE hp s4;have h6:=hx (p.1+1,0) k1;have hb:=hf (p.1+1,0) k1;unfold ifW;generalize ex (p.1+1,0)=e1 at *;have h7:=P7 hl2 hb.hi a39;obtain⟨c1,_,_⟩:=l8 (s:=a39) hE hb.hi;have h8:=hx _ c1;have hb2:=hf _ c1;generalize ex (l6 ts a39 e1.2)=e2 at *;have h9:=P7 hl2 hb2.hi N5;obtain⟨c2,_,_⟩:=l8 (s:=N5) hE hb2.hi;have h10:=hx _ c2;have hb3:=hf _ c2;generalize ex (l6 ts N5 e2.2)=e3 at *;have i1:=hb.sz;have i2:=hb.hi;have i3:=hb2.sz;have i4:=hb2.hi;have i5:=hb3.sz;have i6:=hb3.hi;obtain⟨x,hxx⟩:=F5 e1.1;obtain⟨y,hyy⟩:=F5 e2.1;obtain⟨u,huu⟩:=F5 e3.1;obtain⟨z,hz,ho⟩:=b33 39 ⟨#[]⟩ (r9 ts p.1).at_ [e1.1,e2.1,e3.1] (by simp) (by simp only[d4m,d4t,d4d,d3K];omega);rw[show rP [e1.1,e2.1,e3.1]=[cE x,cE y,cE u] by unfold rP;rw[d4a,d4a,d4a,d47,hxx,hyy,huu]] at ho;rw[hxx] at h6;rw[hyy] at h8;rw[huu] at h10;simp only;rw[hz];exact d1o ho hL.2 (by omega) hd h1 g2 g3 g4 g5 h6 h7 h8 h9 h10
  rw[d3G s4];replace s4:B1 ts gIf p=false:=by simpa using s4
  rw[s4,a6X s4] at g5;have h6:=hs p hp;have hb:=hsf p hp;have i1:=hb.sz;have i2:=hb.hi;obtain⟨x,hxx⟩:=F5 (sm p).1;have h7:=a1a hl2 hb.hi a3A;unfold a86
  by_cases s5:B1 ts a3A (sm p).2=true
  ·obtain⟨k1,k2⟩:=o9 hE hb.hi s5;have h9:=hs ((sm p).2.1+1,0) k1;have hb2:=hsf ((sm p).2.1+1,0) k1;have i3:=hb2.sz;have i4:=hb2.hi;obtain⟨y,hyy⟩:=F5 (sm ((sm p).2.1+1,0)).1;obtain⟨z,hz,ho⟩:=b33 40 a3A (r9 ts p.1).at_ [(sm p).1,(sm ((sm p).2.1+1,0)).1] (by simp) (by simp only[d4m,d4t,d4d,d3K];omega);rw[show rP [(sm p).1,(sm ((sm p).2.1+1,0)).1]=[cE x,cE y] by unfold rP;rw[d4a,d4a,d47,hxx,hyy]] at ho;rw[d3I s5];rw[s5,a6W s5] at h7;rw[hxx] at h6;rw[hyy] at h9;simp only;rw[hz];exact d1p ho hd h1 g2 g3 g4 g5 h6 h7 h9
  rw[d3G s5];replace s5:B1 ts a3A (sm p).2=false:=by simpa using s5
  rw[s5,a6X s5] at h7;have h8:=a1a hl2 hb.hi a3B
  by_cases s6:B1 ts a3B (sm p).2=true
  ·obtain⟨k1,k2⟩:=o9 hE hb.hi s6;have h9:=hs ((sm p).2.1+1,0) k1;have hb2:=hsf ((sm p).2.1+1,0) k1;have i3:=hb2.sz;have i4:=hb2.hi;obtain⟨y,hyy⟩:=F5 (sm ((sm p).2.1+1,0)).1;obtain⟨z,hz,ho⟩:=b33 40 a3B (r9 ts p.1).at_ [(sm p).1,(sm ((sm p).2.1+1,0)).1] (by simp) (by simp only[d4m,d4t,d4d,d3K];omega);rw[show rP [(sm p).1,(sm ((sm p).2.1+1,0)).1]=[cE x,cE y] by unfold rP;rw[d4a,d4a,d47,hxx,hyy]] at ho;rw[d3I s6];rw[s6,a6W s6] at h8;rw[hxx] at h6;rw[hyy] at h9;simp only;rw[hz];exact d1q ho hd h1 g2 g3 g4 g5 h6 h7 h8 h9
  rw[d3G s6];replace s6:B1 ts a3B (sm p).2=false:=by simpa using s6
  rw[s6,a6X s6] at h8;rw[hxx] at h6 ⊢;exact c9p hd h1 g2 g3 g4 g5 h6 h7 h8
 ·rw[d3I h0];rw[d3T h0] at hd;simp only;rw[b2f];exact b8r hd
theorem c9D {ts:List Tok} (hE:y5 ts) (n:Nat) {ex sm:PF} (hf:E3 ts ex) (he:∀p:PE,p.2≠0->ex p=(zPL,p)) (hs:E3 ts sm):E3 ts (a1e ts n ex sm):=λp hp=>by
 have z0:(zPL:PL).2.length=0:=rfl;have next:∀(q:PE) (r:PL×PE),p.1+1<=q.1->p.2=0->FitP ts q r->FitP ts p r:=λq r h1 h2 h=>⟨by have:=h.lo;omega,h.hi,by have:=h.sz;omega,λh0=>⟨h2,by have:=(h.ok h0).2;omega⟩⟩
 unfold a1e
 by_cases h0:p.2=0
 ·rw[d3G (λh=>h h0)]
  split
  ·rename_i h;exact next (p.1+1,0) _ (d3Q _) h0 (b2o hE n hf he _ _ (o9 hE hp h).1)
  split
  ·rename_i h;exact next (p.1+1,0) _ (d3Q _) h0 (b2o hE n hf he _ _ (o9 hE hp h).1)
  split
  ·rename_i h;obtain⟨k1,_⟩:=o9 hE hp h;obtain⟨b1,b2,b3⟩:=r8 hE (p:=(p.1+1,0)) k1;simp only at b2 b3;generalize j7 ts (p.1+1,0)=w at *;unfold c0m;obtain⟨c1,c2,c3⟩:=l8 (s:=E0) hE b1;have hb:=hf _ c1;have e1:=he (l6 ts E0 w.2);generalize l6 ts E0 w.2=q at *;obtain⟨d1,d2,d3⟩:=l8 (s:=gIn) hE hb.hi;have l1:=hb.lo;have l2:=hb.sz;have l4:=hb.ok;have hb2:=hf _ d1;have e2:=he (l6 ts gIn (ex q).2);generalize l6 ts gIn (ex q).2=r at *;have m1:=hb2.lo;have m2:=hb2.sz;have m4:=hb2.ok;have el:(A9 38 w.1 ⟨#[]⟩ (r9 ts p.1).at_ [(ex q).1,(ex r).1]).2.length=(ex q).1.2.length+(ex r).1.2.length+1:=by simp[A9,C9]
   refine⟨by simp only;omega,hb2.hi,?_,λh=>⟨h0,?_⟩⟩
   ·simp only;rw[el]
    by_cases hr:r.2=0
    ·have:=(l4 (d3 hr).1).2;omega
    ·have e2:=e2 hr;rw[e2] at m1 ⊢;simp only at m1 ⊢;omega
   ·have:=m4 h;have:=(l4 (d3 this.1).1).2;simp only;rw[el];omega
  split
  ·rename_i h;obtain⟨k1,_⟩:=o9 hE hp h;have ha:=hf (p.1+1,0) k1;generalize ex (p.1+1,0)=a at *;have j1:=ha.lo;have j2:=ha.sz;have j4:=ha.ok;simp only at j1 j2 j4;unfold ifW;obtain⟨c1,c2,c3⟩:=l8 (s:=a39) hE ha.hi;have hb:=hf _ c1;have e1:=he (l6 ts a39 a.2);generalize l6 ts a39 a.2=q at *;obtain⟨d1,d2,d3⟩:=l8 (s:=N5) hE hb.hi;have l1:=hb.lo;have l2:=hb.sz;have l4:=hb.ok;have hb2:=hf _ d1;have e2:=he (l6 ts N5 (ex q).2);generalize l6 ts N5 (ex q).2=r at *;have m1:=hb2.lo;have m2:=hb2.sz;have m4:=hb2.ok;have el:(A9 39 ⟨#[]⟩ ⟨#[]⟩ (r9 ts p.1).at_ [a.1,(ex q).1,(ex r).1]).2.length=a.1.2.length+((ex q).1.2.length+(ex r).1.2.length)+1:=by simp[A9,C9]
   refine⟨by simp only;omega,hb2.hi,?_,λh=>⟨h0,?_⟩⟩
   ·simp only;rw[el]
    by_cases hq:q.2=0
    ·have:=(j4 (c3 hq).1).2
     by_cases hr:r.2=0
     ·have:=(l4 (d3 hr).1).2;omega
     ·have e2:=e2 hr;rw[e2] at m1 ⊢;simp only at m1 ⊢;omega
    ·have e1:=e1 hq
     have hr:r.2≠0:=λh5=>by
      have h6:=(d3 h5).1;rw[e1] at h6;exact hq h6
     have e2:=e2 hr;rw[e2] at m1 ⊢;rw[e1] at l1 d2 ⊢;simp only at l1 d2 m1 ⊢;omega
   ·have h5:=m4 h;have h6:=l4 (d3 h5.1).1;have:=(j4 (c3 h6.1).1).2;simp only;rw[el];omega
  ·have ha:=hs p hp;have j1:=ha.lo;have j2:=ha.sz;have j4:=ha.ok
   have two:∀(s g:ByteArray),B1 ts s (sm p).2=true->FitP ts p (A9 40 g ⟨#[]⟩ (r9 ts p.1).at_ [(sm p).1,(sm ((sm p).2.1+1,0)).1],(sm ((sm p).2.1+1,0)).2):=λs g h=>by
    obtain⟨k1,k2⟩:=o9 hE ha.hi h;have hb:=hs ((sm p).2.1+1,0) k1;have l1:=hb.lo;have l2:=hb.sz;have l4:=hb.ok;simp only at l1 l2 l4;have:=(j4 k2).2;have el:(A9 40 g ⟨#[]⟩ (r9 ts p.1).at_ [(sm p).1,(sm ((sm p).2.1+1,0)).1]).2.length=(sm p).1.2.length+(sm ((sm p).2.1+1,0)).1.2.length+1:=by simp[A9,C9]
    exact⟨by simp only;omega,hb.hi,by simp only;omega,λh=>⟨h0,by have:=(l4 h).2;simp only;omega⟩⟩
   unfold a86
   split
   ·rename_i h;exact two _ _ h
   split
   ·rename_i h;exact two _ _ h
   ·exact ha
 ·rw[d3I h0];exact⟨d3Q _,hp,by show 0+2 * p.1<=2 * p.1+2;omega,λh=>absurd h h0⟩
section
section
variable {ts:List Tok} (hE:y5 ts) {ex:PF} (hf:E3 ts ex) (he:∀p:PE,p.2≠0->ex p=(zPL,p)) {a:Nat} (hp:a+1<ts.length)
include hE hf hp
theorem c0n (n:Nat) (pl:Int):a+1<=(U3 ts n ex pl (a+1,0)).2.1:=by
 have hb:=hf (a+1,0) hp;have l1:=hb.lo;simp only at l1;unfold U3
 split
 ·rename_i h;obtain⟨k1,k2⟩:=o9 hE hb.hi h;obtain⟨d1,d2,d3⟩:=a28 hE (n - 1) (p:=((ex (a+1,0)).2.1+1,0)) k1;obtain⟨c1,c2,c3⟩:=l8 (s:=a0j) hE d1;simp only at d2 ⊢;omega
 ·obtain⟨c1,c2,c3⟩:=l8 (s:=a0j) hE hb.hi;simp only;omega
include he
theorem b6G (pl:Int):a+1<=(P5 ts ex pl (a+1,0)).2.1:=by
 unfold P5
 split
 ·show a+1<=a+1+1;omega
 ·obtain⟨b1,b2,b3⟩:=r8 hE (p:=(a+1,0)) hp;simp only at b2 b3
  split
  ·rename_i h;obtain⟨k1,k2⟩:=o9 hE b1 h;have hb:=hf ((j7 ts (a+1,0)).2.1+1,0) k1;obtain⟨c1,c2,c3⟩:=l8 (s:=M7) hE hb.hi;have hb2:=hf _ c1;obtain⟨d1,d2,d3⟩:=l8 (s:=Z3) hE hb2.hi;have l1:=hb.lo;have l2:=hb2.lo;simp only at l1 ⊢;omega
  ·have h1:=(b5j hE hf he pl (j7 ts (a+1,0)).1 b1).lo;omega
theorem b6H (pl:Int):a+1<=(Q8 ts ex pl (a+1,0)).2.1:=by
 obtain⟨a1,a2⟩:=b6F hE hf (p:=(a+1,0)) hp;have hB:=(b32 hE hf he (a+1) ts.length true _ a1).1;unfold Q8;generalize chL ts ex ts.length true ([(ex (a+1,0)).1],l6 ts a2E (ex (a+1,0)).2)=s at *;obtain⟨c1,c2,c3⟩:=l8 (s:=a1d) hE hB.hi;have l1:=hB.lo;simp only;omega
end
theorem c3G {ts:List Tok} (hE:y5 ts) (n:Nat) {ex:PF} (hf:E3 ts ex) (he:∀p:PE,p.2≠0->ex p=(zPL,p)) {p:PE} (hp:p.1<ts.length) (h0:p.2=0) (hst:H8 (r9 ts p.1)=true) (n1:B1 ts gAt p=false) (n2:B1 ts a85 p=false):p.1<(I3 ts n ex p).2.1:=by
 unfold I3;rw[d3G (λh=>h h0)]
 split
 ·show p.1<p.1+1;omega
 rename_i k1
 split
 ·show p.1<p.1+1;omega
 rename_i k2
 split
 ·show p.1<p.1+1;omega
 rename_i s1
 split
 ·show p.1<p.1+1;omega
 rename_i s2
 split
 ·rename_i h;exact c0n hE hf (o9 hE hp h).1 n _
 rename_i s3
 split
 ·rename_i h;exact b6G hE hf he (o9 hE hp h).1 _
 rename_i s4
 split
 ·rename_i h;exact b6H hE hf he (o9 hE hp h).1 _
 rename_i s5;exfalso;have e:∀s,B1 ts s p=Z5 (r9 ts p.1) s:=λs=>by unfold B1;rw[h0];rfl
 rw[e] at n1 n2 s1 s2 s3 s4 s5;unfold Z5 at n1 n2 s1 s2 s3 s4 s5;unfold H8 at hst;simp only[a2N,d6z,List.any_nil,Bool.or_false,d41,d3N,d4H] at hst;simp only[d3N,d4H,d6e,d4x] at n1 n2 s1 s2 s3 s4 s5
 rcases hst with h|h|⟨hk,h⟩
 ·exact k1 h
 ·exact k2 h
 ·rcases h with h|h|h|h|h|h|h
  ·exact n1.elim (λg=>g hk) λg=>g h
  ·exact n2.elim (λg=>g hk) λg=>g h
  ·exact s1 ⟨hk,h⟩
  ·exact s2 ⟨hk,h⟩
  ·exact s3 ⟨hk,h⟩
  ·exact s4 ⟨hk,h⟩
  ·exact s5 ⟨hk,h⟩
theorem b5n {ts:List Tok} (hE:y5 ts) {a:Int}:∀(k:Nat) (s:PL×PE),s.2.1<ts.length->s.2.1<=(J5 ts a k s).2.1
 | 0,s,_=>d3Q _
 | k+1,s,hs=>by
  rw[J5];cases hg:w9 ts W6 s.2 with
  | none=>exact d3Q _
  | some g =>
   obtain⟨_,h2,_⟩:=K7 hE hs hg;obtain⟨b1,b2,b3⟩:=r8 hE (p:=(s.2.1+1,0)) h2;simp only at b2;have:=b5n (a:=a) hE k (A9 (a1M g) (j7 ts (s.2.1+1,0)).1 N9 a [s.1],(j7 ts (s.2.1+1,0)).2) b1;simp only at this ⊢;omega
theorem c66 {ts:List Tok} (hE:y5 ts) (m n:Nat) {ex pr:PF} (hf:E3 ts ex) (he:∀p:PE,p.2≠0->ex p=(zPL,p)) (hr:E3 ts pr):StF ts (a2F ts m (a1N (I3 ts n ex) ts) pr):=λp hp h0 hst=>by
 have key:∀(s:ByteArray) (op:Int),B1 ts s p=true->p.1<(a4O ts m op pr p).2.1:=λs op h=>by
  obtain⟨k1,k2⟩:=o9 hE hp h;obtain⟨b1,b2,b3⟩:=r8 hE (p:=(p.1+1,0)) k1;simp only at b2;have hb:=(hr _ b1).lo;unfold a4O
  split
  ·have:(M5 m (j7 ts (p.1+1,0)).2).1=(j7 ts (p.1+1,0)).2.1:=by
    unfold M5
    split
    ·exact(C8 6 (by decide) _).1
    ·rfl
   simp only;omega
  ·simp only;omega
 unfold a2F
 split
 ·rename_i h;exact key _ _ h
 rename_i h1
 split
 ·rename_i h;exact key _ _ h
 rename_i h2;unfold a1N;have h3:=c3G hE n hf he hp h0 hst (by simpa using h1) (by simpa using h2);have h4:=b5n hE (a:=(r9 ts p.1).at_) ts.length (I3 ts n ex p) (a4N hE n hf he hp).hi;omega
end
abbrev a1T (ts:List Tok) (n:Nat) (ex pr:PF):PF:=a2F ts n (a1N (I3 ts (n+1) ex) ts) pr
abbrev b5o (ts:List Tok) (P:PF):PF:=c3i (a4L (a4b P ts) ts) ts
def J1 (ts:List Tok):Nat->PF×PF
 | 0=>(λp=>(zPL,F6 6 p),λp=>(zPL,F6 6 p))
 | n+1=>(a1e ts (n+1) (J1 ts n).1 (b5o ts (a1T ts n (J1 ts n).1 (J1 ts n).2)),a1T ts n (J1 ts n).1 (J1 ts n).2)
theorem a1O {ts:List Tok} (hE:y5 ts) {P:PF} (h:E3 ts P):E3 ts (a4L (a4b P ts) ts)/\E3 ts (b5o ts P) :=
 ⟨c6n (sg:=a24) (a:=λp=>(r9 ts p.1).at_) hE (b5b h),c6n (sg:=a56) (a:=λp=>(r9 ts p.1).at_) hE (c6n (sg:=a24) (a:=λp=>(r9 ts p.1).at_) hE (b5b h))⟩
theorem a1f {ts:List Tok} (hE:y5 ts):∀n,E3 ts (J1 ts n).1/\(∀p:PE,p.2≠0->(J1 ts n).1 p=(zPL,p))/\E3 ts (J1 ts n).2
 | 0=>by
  have h:E3 ts λp=>(zPL,F6 6 p):=λp hp=>by
   obtain⟨f1,f2⟩:=C8 6 (by decide) p;exact⟨by show p.1<=(F6 6 p).1;omega,by show (F6 6 p).1<_;omega,by show 0+2 * p.1<=2 * (F6 6 p).1+2;omega,λh=>absurd h f2⟩
  exact⟨h,λp hp=>by show (zPL,F6 6 p)=_;unfold F6;rw[d3I hp],h⟩
 | n+1=>by
  obtain⟨h1,h2,h3⟩:=a1f hE n;have hP:E3 ts (a1T ts n (J1 ts n).1 (J1 ts n).2):=d1U hE n (c7F hE λp hp=>a4N hE (n+1) h1 h2 hp) h3;exact⟨c9D hE (n+1) h1 h2 (a1O hE hP).2,λp hp=>b2s _ _ _ _ p hp,hP⟩
theorem d1W {ts:List Tok} (hE:y5 ts) (hN:a0c ts) (hl:ts.length<=65537):∀(n:Nat) (L:Int),a27 n L->(∀p:PE,p.1<ts.length->N2 12 [vi .i64 L] ts p [.ag (C0 (cP ((J1 ts n).1 p).1))] ((J1 ts n).1 p).2)/\(n≠0->∀p:PE,p.1<ts.length->N2 91 [vi .i64 L] ts p [.ag (C0 (cP ((J1 ts n).2 p).1))] ((J1 ts n).2 p).2)
 | 0,L,hv=>⟨λp hp=>by
   have hL:200<L:=by unfold a27 at hv;omega
   have hd:=b3j (by omega:ts.length<=1048576) hp (n:=0) (L:=L) (.inl ⟨rfl,hL⟩);obtain⟨f1,f2⟩:=C8 6 (by decide) p;rw[show M5 0 p=F6 6 p from rfl,d3T f2] at hd;show N2 _ _ ts p [.ag (C0 (cP zPL))] (F6 6 p);rw[b2f]
   exact b8r hd,λh=>absurd rfl h⟩
 | n+1,L,hv=>by
  have hb:0<=L/\L<=200/\(n=0/\200<L+1\/n≠0/\L+1<=200):=by unfold a27 at hv;omega
  have hv2:a27 n (L+1):=b31 hv;obtain⟨i1,i2⟩:=d1W hE hN hl n (L+1) hv2;obtain⟨h1,h2,h3⟩:=a1f hE n;have hat:E3 ts (I3 ts (n+1) (J1 ts n).1):=λp hp=>a4N hE (n+1) h1 h2 hp
  have hP:E3 ts (a1T ts n (J1 ts n).1 (J1 ts n).2):=(a1f hE (n+1)).2.2
  have hpre:∀p:PE,p.1<ts.length->N2 91 [vi .i64 L] ts p [.ag (C0 (cP (a1T ts n (J1 ts n).1 (J1 ts n).2 p).1))] (a1T ts n (J1 ts n).1 (J1 ts n).2 p).2:=λp hp =>
   d1V hE hl hb.1 (by omega) hb.2.2 h3 (λq hq=>c9t hE hl hat (λr hr=>c9B hE hN hl (n+1) L hv (by omega) h1 h2 i1 hr) q hq) (λhm q hq _=>i2 hm q hq) hp
  have happ:=λp hp=>d1t hl hP (c66 hE n (n+1) h1 h2 h3) hpre p hp
  have hprod:=λp hp=>c9s hE hl (b5b hP) happ p hp
  have hsum:=λp hp=>d1s hE hl (a1O hE hP).1 hprod p hp
  exact⟨λp hp=>c9C hE hN hl (n+1) L hv (by omega) h1 (a1O hE hP).2 i1 hsum hp,λ_=>hpre⟩
theorem c67:∀t:Ty,t.parts.length<=1048576->o8 32 [.ag (cT t)] [.ag (cT t)]:=by
 intro t
 induction t using Ty.ind with
 | h t ih =>
  intro hN;have hkl:=J7 t;obtain⟨op,nm,n,ks⟩:=t;simp only[Ty.kids] at hkl ih;rw[cT];obtain⟨K,hK⟩:∃K,K=rT ks:=⟨_,rfl⟩;rw[<-hK];refine Q5 Tryz.func32 rfl ?_;intro qa qb _ _ _ _ _ qi _ _ _ _ _ _ _ _ _ _ _ _ _ _ va vc _ ve;intros;rename_i hA;cbv
  with_reducible apply j6 hA
  cbv;refine a3b hA 3 27 true rfl ?_;cbv
  repeat ((with_reducible apply j6 hA);cbv)
  obtain⟨e1,e2,e3,e4,e5,e6,e7,e8,e9⟩:=m6 hA;obtain⟨r1,r2,r3,r4⟩:=B3 hA;refine n9 hA (γ:=Int×List (List D)) (λx=>[(9,vi .i64 x.1),(3,.own 2),(13,.jk)]) (λx=>[(2,.row true 27 x.2)]) (λx=>∃k:Nat,x.1=(k:Int)/\k<=ks.length/\x.2=rT (ks.take k)) (λx=>ks.length - x.1.toNat) (0,[]) ?_ ?_ ?_
  ·exact⟨0,rfl,d4o _,rfl⟩
  ·cbv
  ·intro x hinv;obtain⟨z,L⟩:=x;cbv;refine gn ?_;obtain⟨k,hz,hk,hE⟩:=hinv;have hz:z=(k:Int):=hz;replace hE:L=rT (ks.take k):=hE;have hlen:va K=(ks.length:Int):=by rw[r1,hK,M4]
   have hlt:qi z (va K)=decide (k<ks.length):=by rw[e7,hlen,hz];exact d3X.2 (by omega)
   by_cases h9:k<ks.length
   ·rw[d3S h9] at hlt;obtain⟨x,hx⟩:∃x,ks[k]?=some x:=⟨_,d3H h9⟩;have g1:vc K z=some (cT x):=by rw[r2,hz,d3I (by omega),hK];exact a1q hx
    have hsp:=ih x (d3U hx) (by have:=hkl.2 x (d3U hx);omega);have hsn:=a8Q hx;obtain⟨o1,m1,n1,l1⟩:=x;rw[cT] at g1 hsp hsn;generalize rT l1=L1 at *;rw[hlt];cbv;refine gn ?_;rw[g1];cbv
    repeat ((with_reducible apply j6 hA);cbv)
    refine j8 hA _ hsp ?_ ?_
    ·rfl
    cbv;refine E2 hA true ?_;cbv;refine F3 hA (by rw[hE,M4];simp;omega) ?_;cbv
    repeat ((with_reducible apply j6 hA);cbv)
    replace hz:z=(k:Int):=hz;have hz1:qa .i64 (qb z 1)=((k+1:Nat):Int):=by rw[e1,e2,hz,IntWalk.i64_in _ (by omega)];omega
    refine⟨(qa .i64 (qb z 1),ve L [[.sc (.int .u8 o1),.sc (.string m1),.sc (.int .i64 n1),.sl 4 L1]]),⟨k+1,hz1,h9,by show ve L _=_;rw[r4,hE,hsn]⟩,by show ks.length - (qa .i64 (qb z 1)).toNat<ks.length - z.toNat;rw[hz1,hz];omega,?_⟩;cbv
   ·rw[d3P h9] at hlt;rw[hlt];cbv;refine gn ?_;have hE2:L=K:=by rw[hE,hK,d4z (by omega)]
    rw[hE2];exact⟨rfl,trivial⟩
theorem Tm.ind {P:Tm->Prop} (h:∀op nm ar n b a ks,(∀k∈ks,P k)->P (.mk op nm ar n b a ks)):∀t,P t
 | .mk op nm ar n b a ks=>h op nm ar n b a ks λk hk=>Tm.ind h k
mutual
def m7:Tm->List Tm
 | .mk op nm ar n h a ks=>.mk op nm ar n h a ks::b0F ks
def b0F:List Tm->List Tm
 | []=>[]
 | t::ts=>m7 t++b0F ts
end
theorem P0:∀l:List Tm,b0F l=l.flatMap m7
 | []=>by rw[b0F];rfl
 | t::l=>by rw[b0F,P0 l];rfl
def anM:Tm->Ty
 | .mk _ _ _ _ _ a _=>a
theorem a5k (t:Tm):1<=(m7 t).length:=by
 obtain⟨op,nm,ar,n,h,a,ks⟩:=t;rw[m7,d3O];omega
theorem a6Y {α β:Type} (f:α->List β) (hf:∀x,1<=(f x).length):∀l:List α,l.length<=(l.flatMap f).length
 | []=>d3Q _
 | x::l=>by
  rw[d4m,d3K,d3O];have:=a6Y f hf l;have:=hf x;omega
def GdT (t:Tm):Prop:=∀x∈m7 t,(anM x).parts.length<=1048576
theorem b89 {op:Int} {nm ar:ByteArray} {n:Int} {h:Bool} {a:Ty} {ks:List Tm} (hn:(m7 (.mk op nm ar n h a ks)).length<=1048576) (hg:GdT (.mk op nm ar n h a ks)):a.parts.length<=1048576/\ks.length<=1048576/\∀k∈ks,(m7 k).length<=1048576/\GdT k:=by
 unfold GdT at hg;rw[m7] at hn hg;rw[P0] at hn hg;rw[d3O] at hn;refine⟨hg _ (d3L ..),by have:=a6Y m7 a5k ks;omega,λk hk=>⟨?_,λx hx=>hg x (d3M _ (d40.2 ⟨k,hk,hx⟩))⟩⟩;obtain⟨i,hi,e⟩:=List.getElem_of_mem hk;have:=b48 m7 ks i k (by rw[d3H hi,e]);omega
theorem b0G {l:List Tm} {k:Nat} {t:Tm} (h:l[k]?=some t):(rM l)[k]?=some (cM t):=by rw[a5Y,d4p,h];rfl
theorem c68 {ks:List Tm} {k:Nat} {x:Tm} (h:ks[k]?=some x):rM (ks.take (k+1))=rM (ks.take k)++[cM x]:=by
 rw[a5f h,a5Y,a5Y,d45];rfl
theorem c9E:∀t:Tm,(m7 t).length<=1048576->GdT t->o8 16 [.ag (cM t)] [.ag (cM t)]:=by
 intro t
 induction t using Tm.ind with
 | h op nm ar n b a ks ih =>
  intro hN hG;obtain⟨ha,hkl,hkk⟩:=b89 hN hG;have hty:=c67 a ha;have hcp:=λk hk=>ih k hk (hkk k hk).1 (hkk k hk).2
  clear ih hN hG hkk;obtain⟨a0,a1,a2,a3,haa⟩:=m8 a;rw[haa] at hty;rw[cM,haa];obtain⟨K,hK⟩:∃K,K=rM ks:=⟨_,rfl⟩;rw[<-hK];have hln:K.length=ks.length:=by rw[hK,a5Z]
  obtain⟨inv,hv⟩:∃inv:Int×List (List D)->Prop,inv=λx=>∃k:Nat,x.1=(k:Int)/\k<=ks.length/\x.2=rM (ks.take k):=⟨_,rfl⟩
  have hi0:inv (0,[]):=by rw[hv];exact⟨0,rfl,d4o _,by rw[d6t,rM]⟩
  refine Q5 Tryz.func16 rfl ?_;intro qa qb _ _ _ _ _ qi _ _ _ _ _ _ _ _ _ _ _ _ _ _ va vc;intros;rename_i hA;obtain⟨e1,e2,e3,e4,e5,e6,e7,e8,e9⟩:=m6 hA;obtain⟨r1,r2,r3,r4⟩:=B3 hA
  iterate 2 (try cbv;repeat ((first|refine a3b hA 3 30 true rfl ?_|with_reducible apply j6 hA);cbv))
  try simp (maxSteps:=4000000) only [nc] at *
  refine n9 hA (γ:=Int×List (List D)) (λx=>[(9,vi .i64 x.1),(3,.own 2),(13,.jk)]) (λx=>[(2,.row true 30 x.2)]) inv (λx=>ks.length - x.1.toNat) (0,[]) hi0 ?_ ?_
  ·cbv
  ·intro x hinv;obtain⟨z,L⟩:=x;cbv;refine gn ?_;try simp only[nc] at *
   rw[hv] at hinv;obtain⟨k,hz,hk,hE⟩:=hinv;replace hz:z=(k:Int):=hz;replace hE:L=rM (ks.take k):=hE;have hLl:L.length<=1048576:=by rw[hE,a5Z,d4n];omega
   have hlt:qi z (va K)=decide (k<ks.length):=by rw[e7,r1,hln,hz];exact d3X.2 (by omega)
   by_cases h9:k<ks.length
   ·rw[d3S h9] at hlt;obtain⟨x,hx⟩:∃x,ks[k]?=some x:=⟨_,d3H h9⟩;have h0:=hcp x (d3U hx);obtain⟨d0,d1,d2,d3,d4,d5,d6,d7,d8,d9,hd⟩:=a3e x;have gx:vc K z=some [d0,d1,d2,d3,d4,d5,d6,d7,d8,d9]:=by rw[r2,hz,d3I (by omega),show ((k:Int)).toNat=k by omega,hK,b0G hx,hd]
    rw[hd] at h0;have hz1:qa .i64 (qb z 1)=((k+1:Nat):Int):=by rw[e1,e2,hz,IntWalk.i64_in _ (by omega)];omega
    have hm:ks.length - (qa .i64 (qb z 1)).toNat<ks.length - z.toNat:=by rw[hz1,hz];omega
    have hi:inv (qa .i64 (qb z 1),L++[[d0,d1,d2,d3,d4,d5,d6,d7,d8,d9]]):=by
     rw[hv];exact⟨k+1,hz1,h9,by show L++_=_;rw[hE,c68 hx,hd]⟩
    rw[hlt]
    iterate 2 (try cbv;repeat ((first|with_reducible apply j6 hA|rw[gx]|refine j8 hA _ h0 rfl ?_|refine l9 hA _ h0 ?_|rw[ea hA]|refine E2 hA true ?_|(refine F3 hA (by simp only[d3O,d3Y];omega) ?_));cbv))
    try simp (maxSteps:=4000000) only [nc] at *
    refine⟨_,hi,hm,?_⟩;cbv
   ·rw[d3P h9] at hlt;have hL2:K=L:=by rw[hK,hE,d4z (by omega)]
    rw[hlt,hL2]
    iterate 2 (try cbv;repeat ((first|with_reducible apply j6 hA|refine j8 hA _ hty rfl ?_|refine l9 hA _ hty ?_);cbv))
theorem c69:∀t:Tm,(m7 t).length<=1048576->o8 8 [.ag (cM t)] [.one (.sc (.int .i64 ((m7 t).length:Int)))]:=by
 intro t
 induction t using Tm.ind with
 | h op nm ar n b a ks ih =>
  intro hN;have hlen:(m7 (.mk op nm ar n b a ks)).length=1+(ks.flatMap m7).length:=by rw[m7,P0,d3O];omega
  have hsub:∀k,((ks.take k).flatMap m7).length<=(ks.flatMap m7).length:=λk=>by
   conv=>rhs;rw[<-d46 k ks,d4Q,d3K]
   omega
  have hkl:ks.length<=1048576:=by
   have:=a6Y m7 a5k ks;omega
  have hcp:=λk hk=>ih k hk (by
   obtain⟨i,hi⟩:=d42.1 hk;have h1:=hsub (i+1)
   have h2:((ks.take (i+1)).flatMap m7).length=((ks.take i).flatMap m7).length+(m7 k).length:=by
    rw[d6u,hi,d4Q,d3K]
    simp
   omega)
  have hst:∀k x,ks[k]?=some x->((ks.take (k+1)).flatMap m7).length=((ks.take k).flatMap m7).length+(m7 x).length:=λk x hx=>by
   rw[d6u,hx,d4Q,d3K]
   simp
  rw[hlen];rw[hlen] at hN;clear ih hlen;obtain⟨a0,a1,a2,a3,haa⟩:=m8 a;rw[cM,haa];obtain⟨K,hK⟩:∃K,K=rM ks:=⟨_,rfl⟩;rw[<-hK];have hln:K.length=ks.length:=by rw[hK,a5Z]
  obtain⟨M,hM⟩:∃M:Int,M=((1+(ks.flatMap m7).length:Nat):Int):=⟨_,rfl⟩;rw[<-hM];obtain⟨inv,hv⟩:∃inv:Int×Int->Prop,inv=λx=>∃k:Nat,x.1=(k:Int)/\k<=ks.length/\x.2=((1+((ks.take k).flatMap m7).length:Nat):Int):=⟨_,rfl⟩
  have hi0:inv (0,1):=by rw[hv];exact⟨0,rfl,d4o _,rfl⟩
  refine Q5 Tryz.func8 rfl ?_;intro qa qb _ _ _ _ _ qi _ _ _ _ _ _ _ _ _ _ _ _ _ _ va vc;intros;rename_i hA;obtain⟨e1,e2,e3,e4,e5,e6,e7,e8,e9⟩:=m6 hA;obtain⟨r1,r2,r3,r4⟩:=B3 hA
  try cbv;refine gr ?_;try simp only[nc] at *
  refine n9 hA (γ:=Int×Int) (λx=>[(9,vi .i64 x.1),(3,vi .i64 x.2)]) (λx=>[]) inv (λx=>ks.length - x.1.toNat) (0,1) hi0 ?_ ?_
  ·cbv
  ·intro x hinv;obtain⟨z,m⟩:=x;cbv;refine gn ?_;try simp only[nc] at *
   rw[hv] at hinv;obtain⟨k,hz,hk,hE⟩:=hinv;replace hz:z=(k:Int):=hz;replace hE:m=((1+((ks.take k).flatMap m7).length:Nat):Int):=hE;have hlt:qi z (va K)=decide (k<ks.length):=by rw[e7,r1,hln,hz];exact d3X.2 (by omega)
   by_cases h9:k<ks.length
   ·rw[d3S h9] at hlt;obtain⟨x,hx⟩:∃x,ks[k]?=some x:=⟨_,d3H h9⟩;have h0:=hcp x (d3U hx);have h1:=hst k x hx;have h2:=hsub (k+1);obtain⟨d0,d1,d2,d3,d4,d5,d6,d7,d8,d9,hd⟩:=a3e x;have gx:vc K z=some [d0,d1,d2,d3,d4,d5,d6,d7,d8,d9]:=by rw[r2,hz,d3I (by omega),show ((k:Int)).toNat=k by omega,hK,b0G hx,hd]
    rw[hd] at h0;have hz1:qa .i64 (qb z 1)=((k+1:Nat):Int):=by rw[e1,e2,hz,IntWalk.i64_in _ (by omega)];omega
    have hm1:qa .i64 (qb m ((m7 x).length:Int))=((1+((ks.take (k+1)).flatMap m7).length:Nat):Int):=by rw[e1,e2,hE,IntWalk.i64_in _ (by omega)];omega
    have hm:ks.length - ((k+1:Nat):Int).toNat<ks.length - z.toNat:=by rw[hz];omega
    have hi:inv (((k+1:Nat):Int),((1+((ks.take (k+1)).flatMap m7).length:Nat):Int)):=by
     rw[hv];exact⟨k+1,rfl,h9,rfl⟩
    generalize ((1+((ks.take (k+1)).flatMap m7).length:Nat):Int)=m1 at *;generalize ((k+1:Nat):Int)=z1 at *;generalize ((m7 x).length:Int)=c at *;rw[hlt]
    iterate 2 (try cbv;repeat ((first|with_reducible apply j6 hA|rw[gx]|rw[hz1]|rw[hm1]|refine j8 hA _ h0 rfl ?_|refine l9 hA _ h0 ?_);cbv))
    try simp (maxSteps:=4000000) only [nc] at *
    refine⟨(z1,m1),hi,hm,?_⟩;cbv
   ·rw[d3P h9] at hlt;have hL2:m=M:=by rw[hM,hE,d4z (by omega)]
    rw[hlt,hL2]
    try cbv;exact fr
section
def cl (r:PL×PE):PL×PE:=if r.2.2=0 then r else (zPL,r.2)
section
variable {ts:List Tok} (hE:y5 ts) {n:Nat}
include hE
end
section
variable {ts:List Tok} {ex:PF}
variable (hE:y5 ts) (hf:E3 ts ex)
include hE hf
theorem b8A {q:PE} (hq:q.1<ts.length) (h:B1 ts P4 q=true):(ex (l6 ts E0 (j7 ts (q.1+1,0)).2)).2.1<ts.length/\q.1+1<=(ex (l6 ts E0 (j7 ts (q.1+1,0)).2)).2.1:=by
 obtain⟨k1,k2⟩:=o9 hE hq h;obtain⟨b1,b2,b3⟩:=r8 hE (p:=(q.1+1,0)) k1;obtain⟨c1,c2,c3⟩:=l8 (s:=E0) hE b1;have hb:=hf _ c1;have l1:=hb.lo;simp only at b2;exact⟨hb.hi,by omega⟩
end
end
section
theorem a0u {ts:List Tok} {s:ByteArray} {p:PE} (h:p.2≠0):B1 ts s p=false:=by unfold B1;rw[d3T h];rfl
theorem b34 {ts:List Tok} {s:ByteArray} {p:PE} (h:p.2≠0):l6 ts s p=p:=d3I h
theorem c3H {ts:List Tok} {p:PE} (h:p.2≠0):j7 ts p=(N9,p):=by unfold j7 F6;rw[d3G (λhh=>h hh.1),d3I h]
def Gd (x:PL):Prop:=x.2.length=(m7 x.1).length/\GdT x.1
def OkG (r:PL×PE):Prop:=r.2.2=0->Gd r.1
theorem a8S {op:Int} {nm ar:ByteArray} {n:Int} {h:Bool} {a:Ty} {pl:Int} {ks:List PL} (ha:a.parts.length<=1048576) (hk:∀x∈ks,Gd x):Gd (C9 op nm ar n h a pl ks):=by
 unfold C9;refine⟨?_,λx hx=>?_⟩
 ·show (pl::ks.flatMap λp=>p.2).length=_;rw[m7,P0,d3O,d3O]
  congr 1
  clear ha
  induction ks with
  | nil=>rfl
  | cons k ks ih =>
   rw[d4m,d4a,d4m,d3K,d3K,ih λx hx=>hk x (d3M _ hx),(hk k (d3L ..)).1]
 ·have hx:x∈m7 (.mk op nm ar n h a (ks.map λp=>p.1)):=hx;rw[m7,P0] at hx
  rcases d3R.1 hx with rfl|hx
  ·exact ha
  ·obtain⟨t,ht,hx⟩:=d40.1 hx;obtain⟨k,hk1,rfl⟩:=d4U.1 ht;exact(hk k hk1).2 x hx
theorem a7a:v8.parts.length<=1048576:=by rw[a1w];omega
theorem c6A {op:Int} {nm ar:ByteArray} {pl:Int} {ks:List PL} (hk:∀x∈ks,Gd x):Gd (A9 op nm ar pl ks):=a8S a7a hk
theorem a5l (op:Int) (nm:ByteArray) (n a:Int):Gd (a1L op nm n a):=a8S (op:=op) (nm:=nm) (ar:=N9) (n:=n) (h:=false) (pl:=a) (ks:=[]) a7a λx hx=>by cases hx
theorem c6B {op:Int} {nm ar:ByteArray} {pl:Int} {x:PL} (h:Gd x):Gd (A9 op nm ar pl [x]):=c6A λy hy=>by rw[d4e.1 hy];exact h
theorem b6I {op:Int} {nm ar:ByteArray} {pl:Int} {x y:PL} (h:Gd x) (h2:Gd y):Gd (A9 op nm ar pl [x,y]):=c6A λz hz=>by
 rcases d3R.1 hz with rfl|hz
 ·exact h
 ·rw[d4e.1 hz];exact h2
theorem A2 {ts:List Tok} {s:ByteArray} {p:PE} (h:(l6 ts s p).2=0):p.2=0:=by
 by_cases h0:p.2=0
 ·exact h0
 ·rw[b34 h0] at h;exact h
theorem b35 {ts:List Tok} {p:PE} (h:(j7 ts p).2.2=0):p.2=0:=by
 by_cases h0:p.2=0
 ·exact h0
 ·rw[c3H h0] at h;exact h
theorem a7V {ts:List Tok} {s:ByteArray} {p:PE} (h:B1 ts s p=true):p.2=0:=by
 by_cases h0:p.2=0
 ·exact h0
 ·rw[a0u h0] at h;cases h
section
variable {ts:List Tok} (hE:y5 ts) (hl:ts.length<=65537)
include hE hl
theorem b8B (n:Nat) {p:PE} (hp:p.1<ts.length):(H3 ts n p).1.parts.length<=1048576:=by
 unfold H3
 split
 ·have hf:=(T7 hE n (p.1,0) hp).1;have h1:=hf.sz;have h2:=hf.hi;show (T8 ts n p.1).1.parts.length<=_;unfold T8
  split
  ·exact a7a
  ·show (y9 _).parts.length<=_;rw[a5g _ _ (d3Q _) hf.sp];omega
 ·exact a7a
theorem b5p (n:Nat) {p:PE} (hp:p.1<ts.length):(A6 ts n p).1.2.2.1.parts.length<=1048576:=by
 unfold A6
 split
 ·rename_i h;obtain⟨a1,a2,a3⟩:=b08 hE hp h;obtain⟨b1,b2,b3⟩:=r8 hE a1;obtain⟨c1,c2,c3⟩:=l8 (s:=a2a) hE b1;exact b8B hE hl (n - 1) c1
 ·exact a7a
theorem b2t (n:Nat):∀(k:Nat) (s:List Pm×PE),s.2.1<ts.length->(∀m∈s.1,m.2.2.1.parts.length<=1048576)->∀m∈(E4 ts n k s).1,m.2.2.1.parts.length<=1048576
 | 0,s,h,hs=>hs
 | k+1,s,h,hs=>by
  rw[E4]
  split
  ·refine b2t n k _ (Y8 hE n h).1 λm hm=>?_
   rcases d4s.1 hm with hm|hm
   ·exact hs m hm
   ·rw[d4e.1 hm];exact b5p hE hl n h
  ·exact hs
omit hE hl in
theorem c3I {pl:Int} {r:Bool} {w:ByteArray} {x:PL} (hx:Gd x):∀(f:Bool) (l:List Pm),(∀m∈l,m.2.2.1.parts.length<=1048576)->Gd (fnW pl r w x f l)
 | _,[],_=>by rw[fnW];exact hx
 | f,m::l,h=>by
  rw[fnW];refine a8S (h m (d3L ..)) λy hy=>?_
  rw[d4e.1 hy];exact c3I hx false l λm hm=>h m (d3M _ hm)
variable {ex:PF} (he:∀p:PE,p.2≠0->ex p=(zPL,p)) (hf:E3 ts ex) (hg:∀p:PE,p.1<ts.length->OkG (ex p))
include hg
theorem a8t (n:Nat) (pl:Int) (r:Bool) {p:PE} (hp:p.1<ts.length):OkG (G4 ts n ex pl r p):=by
 have hq:(if r=true then (j7 ts p).2 else p).1<ts.length:=by
  split
  ·exact(r8 hE hp).1
  ·exact hp
 unfold G4;generalize (if r=true then (j7 ts p).2 else p)=q at *;obtain⟨a1,a2,a3,a4⟩:=a0G hE n hq;refine λh=>c3I (hg _ a1 h) true _ ?_
 refine b2t hE hl n _ _ (Y8 hE n hq).1 λm hm=>?_
 rw[d4e.1 hm];exact b5p hE hl n hq
include he hf
theorem c6C {p:PE} (h:(ex p).2.2=0):p.2=0:=by
 by_cases h0:p.2=0
 ·exact h0
 ·rw[he p h0] at h;exact h
theorem b2u:∀(k:Nat) (s:List Fd×PE),s.2.1<ts.length->(s.2.2=0->∀f∈s.1,Gd f.2.2)->(C2 ts ex k s).2.1<ts.length/\((C2 ts ex k s).2.2=0->∀f∈(C2 ts ex k s).1,Gd f.2.2)
 | 0,s,h,hs=>⟨h,hs⟩
 | k+1,s,h,hs=>by
  rw[C2]
  split
  ·rename_i hc;obtain⟨a1,a2⟩:=b8A hE hf h hc;obtain⟨k1,k2⟩:=o9 hE h hc;obtain⟨b1,b2,b3⟩:=r8 hE (p:=(s.2.1+1,0)) k1;obtain⟨c1,c2,c3⟩:=l8 (s:=E0) hE b1;refine b2u k _ a1 λh0 f hf'=>?_
   rcases d4s.1 hf' with hf'|hf'
   ·exact hs k2 f hf'
   ·rw[d4e.1 hf'];exact hg _ c1 h0
  ·exact⟨h,hs⟩
omit hE hl he hf hg in
theorem b6J {x:PL} (hx:Gd x):∀l:List Fd,(∀f∈l,Gd f.2.2)->Gd (fdW x l)
 | [],_=>by rw[fdW];exact hx
 | f::l,h=>by
  rw[fdW];exact b6I (h f (d3L ..)) (b6J hx l λf hf=>h f (d3M _ hf))
theorem b6K (pl:Int) (w:ByteArray) {p:PE} (hp:p.1<ts.length):OkG (T9 ts ex pl w p):=by
 obtain⟨c1,c2,c3⟩:=l8 (s:=E0) hE hp;have hF:=b2u hE hl he hf hg ts.length ([(w,pl,(ex (l6 ts E0 p)).1)],(ex (l6 ts E0 p)).2) (hf _ c1).hi (λh0 f hf'=>by rw[d4e.1 hf'];exact hg _ c1 h0);intro h;have h2:=A2 h;show Gd (fdW (H9 ts ex (a6e ts ex pl w p).2).1 (a6e ts ex pl w p).1);unfold a6e at h2 ⊢;generalize C2 ts ex ts.length ([(w,pl,(ex (l6 ts E0 p)).1)],(ex (l6 ts E0 p)).2)=F at *;unfold H9 at h2 ⊢
 split at h2
 ·rename_i hb;rw[d3I hb];exact b6J (hg _ (o9 hE hF.1 hb).1 h2) _ (hF.2 (a7V hb))
 ·rename_i hb;rw[d3G hb];exact b6J (a5l _ _ _ _) _ (hF.2 h2)
theorem c9F {p:PE} (hp:p.1<ts.length):OkG (U0 ts ex p):=by
 unfold U0
 split
 ·rename_i h;obtain⟨k1,k2⟩:=o9 hE hp h;obtain⟨b1,b2,b3⟩:=r8 hE (p:=(p.1+1,0)) k1;obtain⟨c1,c2,c3⟩:=l8 (s:=a0h) hE b1;exact λh=>c6B (hg _ c1 h)
 ·obtain⟨a1,_,_⟩:=r8 hE hp;obtain⟨b1,b2,b3⟩:=r8 hE a1;obtain⟨c1,c2,c3⟩:=l8 (s:=a0h) hE b1;exact λh=>c6B (hg _ c1 h)
theorem c3J:∀(k:Nat) (f:Bool) (s:List PL×PE),s.2.1<ts.length->(s.2.2=0->∀x∈s.1,Gd x)->(chL ts ex k f s).2.2=0->∀x∈(chL ts ex k f s).1,Gd x
 | 0,f,s,h,hs=>hs
 | k+1,f,s,h,hs=>by
  rw[chL]
  split
  ·rename_i hc
   have hq:(chQ ts f s.2).1<ts.length:=by
    unfold chQ
    split
    ·exact h
    ·exact(l8 (s:=a6V) hE h).1
   have ha:=c3C hE hf he hq;have hb:=c9F hE hl he hf hg hq
   have key:(U0 ts ex (chQ ts f s.2)).2.2=0->∀x∈s.1++[(U0 ts ex (chQ ts f s.2)).1],Gd x:=λh0 x hx=>by
    rcases d4s.1 hx with hx|hx
    ·exact hs hc.1 x hx
    ·rw[d4e.1 hx];exact hb h0
   split
   ·exact key
   ·exact c3J k false _ ha.hi key
  ·exact hs
theorem c0o (pl:Int) {p:PE} (hp:p.1<ts.length):OkG (Q8 ts ex pl p):=by
 unfold Q8;intro h;have h2:=A2 h;refine c6A (c3J hE hl he hf hg ts.length true ([(ex p).1],l6 ts a2E (ex p).2) (l8 (s:=a2E) hE (hf p hp).hi).1 (λh0 x hx=>?_) h2);rw[d4e.1 hx];exact hg p hp (A2 h0)
theorem c3K (n:Nat) (pl:Int) {p:PE} (hp:p.1<ts.length):OkG (U3 ts n ex pl p):=by
 unfold U3
 split
 ·rename_i h;refine λh2=>a8S (b8B hE hl (n - 1) (o9 hE (hf p hp).hi h).1) λx hx=>?_
  rw[d4e.1 hx];exact hg p hp (a7V h)
 ·exact λh2=>hg p hp (A2 h2)
theorem c0p (pl:Int) {p:PE} (hp:p.1<ts.length):OkG (P5 ts ex pl p):=by
 unfold P5
 split
 ·exact λ_=>a5l _ _ _ _
 ·obtain⟨b1,b2,b3⟩:=r8 hE hp
  split
  ·rename_i h;obtain⟨k1,_⟩:=o9 hE b1 h;intro h2;have h3:=A2 h2;have h4:=A2 (c6C hE hl he hf hg h3);exact b6I (hg _ k1 h4) (hg _ (l8 (s:=M7) hE (hf _ k1).hi).1 h3)
  ·exact b6K hE hl he hf hg pl _ b1
theorem c6D (n:Nat) {p:PE} (hp:p.1<ts.length):OkG (I3 ts n ex p):=by
 unfold I3
 split
 ·exact λh=>by rename_i h2;exact absurd h h2
 split
 ·exact λ_=>a5l _ _ _ _
 split
 ·exact λ_=>a5l _ _ _ _
 split
 ·exact λ_=>a5l _ _ _ _
 split
 ·exact λ_=>a5l _ _ _ _
 split
 ·rename_i h;exact c3K hE hl he hf hg n _ (p:=(p.1+1,0)) (o9 hE hp h).1
 split
 ·rename_i h;exact c0p hE hl he hf hg _ (p:=(p.1+1,0)) (o9 hE hp h).1
 split
 ·rename_i h;exact c0o hE hl he hf hg _ (p:=(p.1+1,0)) (o9 hE hp h).1
 ·exact λh=>absurd h (C8 5 (by decide) p).2
theorem c6E (n:Nat) {sm:PF} (hs:E3 ts sm) (hsg:∀p:PE,p.1<ts.length->OkG (sm p)) {p:PE} (hp:p.1<ts.length):OkG (a1e ts n ex sm p):=by
 unfold a1e
 split
 ·exact λh=>by rename_i h2;exact absurd h h2
 split
 ·rename_i h;exact a8t hE hl hg n _ _ (p:=(p.1+1,0)) (o9 hE hp h).1
 split
 ·rename_i h;exact a8t hE hl hg n _ _ (p:=(p.1+1,0)) (o9 hE hp h).1
 split
 ·rename_i h;obtain⟨b1,_,_⟩:=r8 hE (p:=(p.1+1,0)) (o9 hE hp h).1;have c1:=(l8 (s:=E0) hE b1).1;have d1:=(l8 (s:=gIn) hE (hf _ c1).hi).1;unfold c0m;intro h2;have h3:=A2 (c6C hE hl he hf hg h2);exact b6I (hg _ c1 h3) (hg _ d1 h2)
 split
 ·rename_i h;have k1:=(o9 hE hp h).1;have c1:=(l8 (s:=a39) hE (hf (p.1+1,0) k1).hi).1;have d1:=(l8 (s:=N5) hE (hf _ c1).hi).1;unfold ifW;intro h2;have h3:=A2 (c6C hE hl he hf hg h2);have h4:=A2 (c6C hE hl he hf hg h3);refine c6A λx hx=>?_
  rcases d3R.1 hx with rfl|hx
  ·exact hg _ k1 h4
  rcases d3R.1 hx with rfl|hx
  ·exact hg _ c1 h3
  ·rw[d4e.1 hx];exact hg _ d1 h2
 ·have ha:=hsg p hp;unfold a86
  split
  ·rename_i h;exact λh2=>b6I (ha (a7V h)) (hsg _ (o9 hE (hs p hp).hi h).1 h2)
  split
  ·rename_i h;exact λh2=>b6I (ha (a7V h)) (hsg _ (o9 hE (hs p hp).hi h).1 h2)
  ·exact ha
end
section
variable {ts:List Tok} (hE:y5 ts)
theorem b5q {a:Int}:∀(k:Nat) (s:PL×PE),OkG s->OkG (J5 ts a k s)
 | 0,s,h=>h
 | k+1,s,h=>by
  rw[J5];cases hg:w9 ts W6 s.2 with
  | none=>exact h
  | some g =>
   refine b5q k _ λh2=>c6B (h ?_)
   by_cases h0:s.2.2=0
   ·exact h0
   ·rw[Y6 h0] at hg;cases hg
include hE
theorem b36 {sg:List ByteArray} {nx:PF} (hf:E3 ts nx) (hn:∀p:PE,p.1<ts.length->OkG (nx p)) {a:Int}:∀(k:Nat) (s:PL×PE),s.2.1<ts.length->OkG s->OkG (a0g sg nx ts a k s)
 | 0,s,hs,h=>h
 | k+1,s,hs,h=>by
  rw[a0g];cases hg:w9 ts sg s.2 with
  | none=>exact h
  | some g =>
   obtain⟨g1,g2,g3⟩:=K7 hE hs hg;exact b36 hf hn k _ (hf (s.2.1+1,0) g2).hi λh2=>b6I (h g1) (hn (s.2.1+1,0) g2 h2)
omit hE in
theorem b8C {pr:PF} (hf:E3 ts pr) (hn:∀p:PE,p.1<ts.length->OkG (pr p)) {a:Int}:∀(k:Nat) (s:PL×PE),s.2.1<ts.length->OkG s->OkG (a04 pr ts a k s)
 | 0,s,hs,h=>h
 | k+1,s,hs,h=>by
  rw[a04]
  split
  ·rename_i hc;exact b8C hf hn k _ (hf s.2 hs).hi λh2=>b6I (h hc.1) (hn s.2 hs h2)
  ·exact h
theorem c9G (m:Nat) {nx pr:PF} (hn:∀p:PE,p.1<ts.length->OkG (nx p)) (hr:∀p:PE,p.1<ts.length->OkG (pr p)) {p:PE} (hp:p.1<ts.length):OkG (a2F ts m nx pr p):=by
 have key:∀(op:Int),p.1+1<ts.length->OkG (a4O ts m op pr p):=λop k1=>by
  obtain⟨b1,b2,b3⟩:=r8 hE (p:=(p.1+1,0)) k1;unfold a4O
  split
  ·rename_i h;intro h2;exfalso;have h2:(M5 m (j7 ts (p.1+1,0)).2).2=0:=h2;unfold M5 at h2
   split at h2
   ·exact(C8 6 (by decide) _).2 h2
   ·rename_i h3;exact(h.resolve_left h3) h2
  ·exact λh2=>c6B (hr _ b1 h2)
 unfold a2F
 split
 ·rename_i h;exact key _ (o9 hE hp h).1
 split
 ·rename_i h;exact key _ (o9 hE hp h).1
 ·exact hn p hp
end
theorem b8D {ts:List Tok} (hE:y5 ts) (hl:ts.length<=65537):∀n,(∀p:PE,p.1<ts.length->OkG ((J1 ts n).1 p))/\(∀p:PE,p.1<ts.length->OkG ((J1 ts n).2 p))
 | 0=>by
  have h:∀p:PE,p.1<ts.length->OkG (zPL,F6 6 p):=λp _ h=>absurd h (C8 6 (by decide) p).2
  exact⟨h,h⟩
 | n+1=>by
  obtain⟨g1,g2⟩:=b8D hE hl n;obtain⟨h1,h2,h3⟩:=a1f hE n;have hat:E3 ts (I3 ts (n+1) (J1 ts n).1):=λp hp=>a4N hE (n+1) h1 h2 hp
  have hP:E3 ts (a1T ts n (J1 ts n).1 (J1 ts n).2):=(a1f hE (n+1)).2.2;have gP:∀p:PE,p.1<ts.length->OkG (a1T ts n (J1 ts n).1 (J1 ts n).2 p):=λp hp=>c9G hE n (λq hq=>b5q _ _ (c6D hE hl h2 h1 g1 (n+1) hq)) g2 hp
  have gA:∀p:PE,p.1<ts.length->OkG (a4b (a1T ts n (J1 ts n).1 (J1 ts n).2) ts p):=λp hp=>b8C hP gP _ _ (hP p hp).hi (gP p hp)
  have gM:∀p:PE,p.1<ts.length->OkG (a4L (a4b (a1T ts n (J1 ts n).1 (J1 ts n).2) ts) ts p):=λp hp=>b36 hE (b5b hP) gA _ _ (b5b hP p hp).hi (gA p hp)
  have hM:=(a1O hE hP).1;have gS:∀p:PE,p.1<ts.length->OkG (b5o ts (a1T ts n (J1 ts n).1 (J1 ts n).2) p):=λp hp=>b36 hE hM gM _ _ (hM p hp).hi (gM p hp)
  exact⟨λp hp=>c6E hE hl h2 h1 g1 (n+1) (a1O hE hP).2 gS hp,gP⟩
end
section
def shM (op:Int):Option (Bool×Bool×Nat×Nat) :=
 if op=32 then some (true,false,0,0) else if op=33\/op=34\/op=41 then some (false,false,0,0) else if op=35 then some (false,true,1,1) else if op=36 then some (true,true,1,1)
 else if op=37 then some (false,false,2,0) else if op=38\/op=42\/op=45 then some (true,false,2,0) else if op=39 then some (false,false,3,0) else if op=40 then some (true,false,2,0)
 else if op=43\/op=44\/op=46\/op=47 then some (true,false,1,0) else if op=48 then some (false,false,99,0) else if op=49 then some (true,true,1,0) else if op=50 then some (false,true,1,0)
 else if op=51 then some (false,false,1,2) else none
def a5s:List ByteArray:=[⟨#[43]⟩,⟨#[45]⟩,⟨#[42]⟩,⟨#[47]⟩,⟨#[37]⟩,⟨#[60]⟩,⟨#[61,61]⟩]
def a1U (s:ByteArray) (should:Bool):Bool:=if should=true then A3 s else s.data.toList == []
def a0A:Ty->Bool
 | .mk op nm n ks=>op == 0 && (nm.data.toList == [] && (n == 0 && ks.isEmpty))
def ndB (G:Ty->Bool) (arm:Bool) (op:Int) (nm ar:ByteArray) (n:Int) (h:Bool) (a:Ty) (len:Nat):Bool:=match shM op with
 | none=>false
 | some (x,y,c,v)=>(arm == (op == 49 || op == 50)) && ((if op=33 then decide (0<=n) else if op=34 then n == 0 || n == 1 else n == 0) && ((if h=true then decide (0<v) && G a else decide (v<2) && a0A a) && (a1U ar y &&
   ((if op=40 then a5s.any λs=>s.data.toList == nm.data.toList else a1U nm x) && (if c=99 then decide (0<len) else len == c)))))
def opM:Tm->Int
 | .mk op _ _ _ _ _ _=>op
mutual
def rtM (G:Ty->Bool):Bool->Tm->Bool
 | arm,.mk op nm ar n h a ks=>ndB G arm op nm ar n h a ks.length && rtK G (op == 48) true ks
def rtK (G:Ty->Bool) (cs:Bool):Bool->List Tm->Bool
 | _,[]=>true
 | first,k::ks=>rtM G (cs && !first) k && ((!(cs && !first) || (opM k != 50 || ks.isEmpty)) && rtK G cs false ks)
end
section
variable {G:Ty->Bool} {N:Int}
def Y4 (G:Ty->Bool) (N:Int) (arm:Bool) (x:PL):Prop:=rtM G arm x.1=true/\∀p∈x.2,0<=p/\p<N
theorem b8F:∀ {ks:List Tm} {f:Bool},(∀k∈ks,rtM G false k=true)->rtK G false f ks=true
 | [],f,_=>by rw[rtK]
 | k::ks,f,h=>by
  rw[rtK,show rtM G (false && !f) k=true from h k (d3L ..),b8F λx hx=>h x (d3M _ hx)];rfl
theorem a8u {op:Int} {nm ar:ByteArray} {n:Int} {h:Bool} {a:Ty} {pl:Int} {ks:List PL} (hp:0<=pl/\pl<N) (hk:∀x∈ks,∀p∈x.2,0<=p/\p<N):∀p∈(C9 op nm ar n h a pl ks).2,0<=p/\p<N:=λp hx=>by
 have hx:p∈pl::ks.flatMap λp=>p.2:=hx
 rcases d3R.1 hx with rfl|hx
 ·exact hp
 ·obtain⟨k,h1,h2⟩:=d40.1 hx;exact hk k h1 p h2
theorem a0q {arm:Bool} {op:Int} {nm ar:ByteArray} {n:Int} {h:Bool} {a:Ty} {pl:Int} {ks:List PL} (h1:ndB G arm op nm ar n h a ks.length=true) (h48:(op == 48)=false) (hp:0<=pl/\pl<N) (hk:∀x∈ks,Y4 G N false x):Y4 G N arm (C9 op nm ar n h a pl ks):=by
 refine⟨?_,a8u hp λx hx=>(hk x hx).2⟩;show rtM G arm (.mk op nm ar n h a (ks.map λp=>p.1))=true
 rw[rtM,d4g,h1,h48,b8F λk hk'=>by
  obtain⟨x,hx,rfl⟩:=d4U.1 hk'
  exact(hk x hx).1]
 rfl
theorem b6L:a0A v8=true:=rfl
theorem b5r {op:Int} {nm ar:ByteArray} {len:Nat} (arm:Bool) {x y:Bool} {c v:Nat} (hs:shM op=some (x,y,c,v)) (hv:decide (v<2)=true) (ha:(arm == (op == 49 || op == 50))=true) (h33:op≠33/\op≠34) (h1:a1U ar y=true) (h2:(if op=40 then a5s.any λs=>s.data.toList == nm.data.toList else a1U nm x)=true) (h3:(if c=99 then decide (0<len) else len == c)=true):ndB G arm op nm ar 0 false v8 len=true:=by
 unfold ndB;rw[hs];show ((arm == (op == 49 || op == 50)) && ((if op=33 then _ else if op=34 then _ else _) && ((if false=true then _ else decide (v<2) && a0A v8) && (a1U ar y && ((if op=40 then _ else _) && _)))):Bool)=true;rw[ha,d3G h33.1,d3G h33.2,d3G (by decide),hv,b6L,h1,h2,h3];rfl
theorem b37 {op:Int} {nm:ByteArray} {pl:Int} {x:PL} (hs:shM op=some (true,false,1,0)) (ho:op≠33/\op≠34/\op≠40/\op≠48/\op≠49/\op≠50) (hw:A3 nm=true) (hp:0<=pl/\pl<N) (hx:Y4 G N false x):Y4 G N false (A9 op nm ⟨#[]⟩ pl [x]) :=
 a0q (b5r false hs rfl (by rw[d3T ho.2.2.2.2.1,d3T ho.2.2.2.2.2];rfl) ⟨ho.1,ho.2.1⟩ rfl (by rw[d3G ho.2.2.1];exact hw) rfl) (d3T ho.2.2.2.1) hp λy hy=>by rw[d4e.1 hy];exact hx
theorem a6h {op:Int} {nm:ByteArray} {pl:Int} {x y:PL} {b:Bool} (hs:shM op=some (b,false,2,0)) (ho:op≠33/\op≠34/\op≠48/\op≠49/\op≠50) (hw:(if op=40 then a5s.any λs=>s.data.toList == nm.data.toList else a1U nm b)=true) (hp:0<=pl/\pl<N) (hx:Y4 G N false x) (hy:Y4 G N false y):Y4 G N false (A9 op nm ⟨#[]⟩ pl [x,y]) :=
 a0q (b5r false hs rfl (by rw[d3T ho.2.2.2.1,d3T ho.2.2.2.2];rfl) ⟨ho.1,ho.2.1⟩ rfl hw rfl) (d3T ho.2.2.1) hp λz hz=>by
  rcases d3R.1 hz with rfl|hz
  ·exact hx
  ·rw[d4e.1 hz];exact hy
end
end
theorem a7X (s:ByteArray):(s.toList == (⟨⟨[]⟩⟩:ByteArray).toList)=(s.data.toList == []):=by rw[ByteArray.toList_eq,ByteArray.toList_eq]
theorem c6F (t:Ty):o8 58 [.ag (cT t)] [.one (.sc (.bool (a0A t)))]:=by
 obtain⟨op,nm,n,ks⟩:=t;obtain⟨c1,h1⟩:∃c,c=(nm.data.toList == []):=⟨_,rfl⟩;obtain⟨c0,h0⟩:∃c,c=(op == 0):=⟨_,rfl⟩;obtain⟨c2,h2⟩:∃c,c=(n == 0):=⟨_,rfl⟩;have h3:((rT ks).length:Int)=(ks.length:Int):=by rw[M4]
 have h4:ks.isEmpty=((ks.length:Int) == 0):=by
  cases ks with
  | nil=>rfl
  | cons k ks=>exact(d3T (show ((k::ks).length:Int)≠0 by rw[d3O];omega)).symm
 rw[a0A,<-h0,<-h1,<-h2,h4,cT];obtain⟨c3,h5⟩:∃c,c=((ks.length:Int) == 0):=⟨_,rfl⟩;rw[<-h5];obtain⟨m,hm⟩:∃m:Int,m=(ks.length:Int):=⟨_,rfl⟩;rw[<-hm] at h3 h5;generalize rT ks=K at *;clear h4 hm;refine Q5 Tryz.func58 rfl ?_;intro _ _ _ _ _ _ _ _ _ _ _ qm _ qp;intros;rename_i hA;obtain⟨s1,s2,s3,s4,s5,s6,-⟩:=G1 hA;have q0:=eb hA h0.symm;have q1:qm (qp nm) (qp ⟨⟨[]⟩⟩)=c1:=by rw[s1,s3,s3,h1];exact a7X nm
 have q2:=eb hA h2.symm;have q3:=en hA h3;have q4:=eb hA h5.symm;cases c0
 ·try cbv;exact fr
 cases c1
 ·try cbv;exact fr
 cases c2
 ·try cbv;exact fr
 ·try cbv;exact fr
theorem b8G (s:ByteArray) (hs:s.size<=4611686018427387904) (b:Bool):o8 36 [.one (.sc (.string s)),.one (.sc (.bool b))] [.one (.sc (.bool (a1U s b)))]:=by
 have h1:=b4z s hs
 have hno:(s.data.toList == [])=true->A3 s=false:=λh=>by
  have h:s.data.toList=[]:=by simpa using h
  have hz:s.size=0:=by rw[<-d54,<-d4K,h];rfl
  unfold A3 Q6;rw[hz,d3P (show ¬0<0 by omega),d5a,d56,d5a]
 obtain⟨c1,h2⟩:∃c,c=(s.data.toList == []):=⟨_,rfl⟩;unfold a1U;rw[<-h2] at hno ⊢;obtain⟨w,hw⟩:∃w,w=A3 s:=⟨_,rfl⟩;rw[<-hw] at hno h1 ⊢;refine Q5 Tryz.func36 rfl ?_;intro _ _ _ _ _ _ _ _ _ _ _ qm _ qp;intros;rename_i hA;obtain⟨s1,s2,s3,s4,s5,s6,-⟩:=G1 hA;have q1:qm (qp s) (qp ⟨⟨[]⟩⟩)=c1:=by rw[s1,s3,s3,h2];exact a7X s
 cases c1
 ·cases b
  ·try cbv;exact fr
  ·try cbv;exact fr
 ·obtain rfl:=hno rfl;cases b
  ·try cbv;exact fr
  ·try cbv;exact fr
theorem c3L (op:Int) (nm ar:ByteArray) (n:Int) (h:Bool) (a:Ty) (ks:List Tm):o8 34 [.ag (cM (.mk op nm ar n h a ks))] [.one (.sc (.bool (if op=33 then decide (0<=n) else if op=34 then n == 0 || n == 1 else n == 0)))]:=by
 obtain⟨a0,a1,a2,a3,haa⟩:=m8 a;rw[cM,haa];generalize rM ks=K at *
 by_cases h1:op=33
 ·rw[d3I h1];subst h1;obtain⟨c,hc⟩:∃c,c=decide (0<=n):=⟨_,rfl⟩;rw[<-hc];refine Q5 Tryz.func34 rfl λqa qb qc qd qe qg qh qi qj qk ql qm qo qp qq qt qu qv qw qx qy qz va vc vd ve vf vg vh vj vk vl vm vn vo vq vr vt vu vv vw vx vy hA=>?_
  have q0:qk 33 33=true:=eb hA rfl;have q1:=em hA hc.symm
  try cbv;exact fr
 rw[d3G h1]
 by_cases h2:op=34
 ·rw[d3I h2];subst h2;obtain⟨c,hc⟩:∃c,c=(n == 0):=⟨_,rfl⟩;obtain⟨d,hd⟩:∃d,d=(n == 1):=⟨_,rfl⟩;rw[<-hc,<-hd];refine Q5 Tryz.func34 rfl λqa qb qc qd qe qg qh qi qj qk ql qm qo qp qq qt qu qv qw qx qy qz va vc vd ve vf vg vh vj vk vl vm vn vo vq vr vt vu vv vw vx vy hA=>?_
  have q0:qk 34 33=false:=eb hA rfl;have q1:qk 34 34=true:=eb hA rfl;have q2:=eb hA hc.symm;have q3:=eb hA hd.symm;cases c
  ·try cbv;exact fr
  ·try cbv;exact fr
 rw[d3G h2];obtain⟨c,hc⟩:∃c,c=(n == 0):=⟨_,rfl⟩;rw[<-hc];refine Q5 Tryz.func34 rfl λqa qb qc qd qe qg qh qi qj qk ql qm qo qp qq qt qu qv qw qx qy qz va vc vd ve vf vg vh vj vk vl vm vn vo vq vr vt vu vv vw vx vy hA=>?_
 have q0:qk op 33=false:=eb hA (d3T h1);have q1:qk op 34=false:=eb hA (d3T h2);have q2:=eb hA hc.symm
 try cbv;exact fr
theorem a06 (s:ByteArray) (l:List UInt8):(s.toList == (⟨⟨l⟩⟩:ByteArray).toList)=(l == s.data.toList):=by rw[ByteArray.toList_eq,ByteArray.toList_eq,Bool.beq_comm]
theorem c6G (s:ByteArray):o8 37 [.one (.sc (.string s))] [.one (.sc (.bool (a5s.any λx=>x.data.toList == s.data.toList)))]:=by
 have e:(a5s.any λx=>x.data.toList == s.data.toList)=(([43] == s.data.toList) || (([45] == s.data.toList) || (([42] == s.data.toList) || (([47] == s.data.toList) || (([37] == s.data.toList) || (([60] == s.data.toList) || (([61,61] == s.data.toList) || false))))))):=rfl;rw[e];have t0:=a06 s [43];have t1:=a06 s [45];have t2:=a06 s [42];have t3:=a06 s [47];have t4:=a06 s [37];have t5:=a06 s [60];have t6:=a06 s [61,61];generalize ([43] == s.data.toList)=c0 at *;generalize ([45] == s.data.toList)=c1 at *;generalize ([42] == s.data.toList)=c2 at *;generalize ([47] == s.data.toList)=c3 at *;generalize ([37] == s.data.toList)=c4 at *;generalize ([60] == s.data.toList)=c5 at *;generalize ([61,61] == s.data.toList)=c6 at *;refine Q5 Tryz.func37 rfl ?_;intro _ _ _ _ _ _ _ _ _ _ _ qm _ qp;intros;rename_i hA;obtain⟨s1,s2,s3,s4,s5,s6,-⟩:=G1 hA;have q0:qm (qp s) (qp ⟨⟨[43]⟩⟩)=c0:=by rw[s1,s3,s3];exact t0
 have q1:qm (qp s) (qp ⟨⟨[45]⟩⟩)=c1:=by rw[s1,s3,s3];exact t1
 have q2:qm (qp s) (qp ⟨⟨[42]⟩⟩)=c2:=by rw[s1,s3,s3];exact t2
 have q3:qm (qp s) (qp ⟨⟨[47]⟩⟩)=c3:=by rw[s1,s3,s3];exact t3
 have q4:qm (qp s) (qp ⟨⟨[37]⟩⟩)=c4:=by rw[s1,s3,s3];exact t4
 have q5:qm (qp s) (qp ⟨⟨[60]⟩⟩)=c5:=by rw[s1,s3,s3];exact t5
 have q6:qm (qp s) (qp ⟨⟨[61,61]⟩⟩)=c6:=by rw[s1,s3,s3];exact t6
 cases c0
 ·cases c1
  ·cases c2
   ·cases c3
    ·cases c4
     ·cases c5
      ·cases c6
       ·try cbv;exact fr
       ·try cbv;exact fr
      ·try cbv;exact fr
     ·try cbv;exact fr
    ·try cbv;exact fr
   ·try cbv;exact fr
  ·try cbv;exact fr
 ·try cbv;exact fr
theorem c9H (op:Int) (b:Bool):o8 38 [.one (.sc (.int .u8 op)),.one (.sc (.bool b))] [.one (.sc (.bool (op == 49 || (op == 50 && b))))]:=by
 obtain⟨c0,h0⟩:∃c,c=(op == 49):=⟨_,rfl⟩;obtain⟨c1,h1⟩:∃c,c=(op == 50):=⟨_,rfl⟩;rw[<-h0,<-h1];refine Q5 Tryz.func38 rfl ?_;intros;rename_i hA;have q0:=eb hA h0.symm;have q1:=eb hA h1.symm;cases c0
 ·cases c1
  ·try cbv;exact fr
  ·try cbv;exact fr
 ·try cbv;exact fr
def shD (op:Int):List D×Bool:=match shM op with
 | some (x,y,c,v)=>([.sc (.bool x),.sc (.bool y),.sc (.int .i64 (if c=99 then -1 else (c:Int))),.sc (.int .i64 (v:Int))],true)
 | none=>([.sc (.bool false),.sc (.bool false),.sc (.int .i64 0),.sc (.int .i64 0)],false)
theorem c3M (op:Int):o8 33 [.one (.sc (.int .u8 op))] [.ag (shD op).1,.one (.sc (.bool (shD op).2))]:=by
 by_cases h:op=32\/op=33\/op=34\/op=35\/op=36\/op=37\/op=38\/op=39\/op=40\/op=41\/op=42\/op=43\/op=44\/op=45\/op=46\/op=47\/op=48\/op=49\/op=50\/op=51
 ·rcases h with rfl|rfl|rfl|rfl|rfl|rfl|rfl|rfl|rfl|rfl|rfl|rfl|rfl|rfl|rfl|rfl|rfl|rfl|rfl|rfl
  all_goals
   unfold shD shM;simp only[Int.reduceEq,d5R,d6l,or_true,true_or,d6b,false_or,or_self,Nat.reduceEqDiff];refine Q5 Tryz.func33 rfl λqa qb qc qd qe qg qh qi qj qk ql qm qo qp qq qt qu qv qw qx qy qz va vc vd ve vf vg vh vj vk vl vm vn vo vq vr vt vu vv vw vx vy hA=>?_
   obtain⟨e1,e2,e3,e4,e5,e6,e7,e8,e9⟩:=m6 hA
   iterate 2 (try cbv;repeat ((first|with_reducible apply j6 hA|rw[e9]);cbv))
   try simp (maxSteps:=4000000) only [nc] at *
   exact⟨rfl,trivial⟩
 ·have e:shD op=([.sc (.bool false),.sc (.bool false),.sc (.int .i64 0),.sc (.int .i64 0)],false):=by
   unfold shD
   rw[show shM op=none by
    unfold shM;simp only[not_or] at h;obtain⟨h1,h2,h3,h4,h5,h6,h7,h8,h9,i0,i1,i2,i3,i4,i5,i6,i7,i8,i9,j0⟩:=h
    simp only[h1,h2,h3,h4,h5,h6,h7,h8,h9,i0,i1,i2,i3,i4,i5,i6,i7,i8,i9,j0,or_self,d6l]]
  rw[e]
  have hc:∀k:Int,(op == k)=(!([32,33,34,35,36,37,38,39,40,41,42,43,44,45,46,47,48,49,50,51]:List Int).contains k && (op == k)):=λk=>by
   by_cases hk:op=k
   ·have:([32,33,34,35,36,37,38,39,40,41,42,43,44,45,46,47,48,49,50,51]:List Int).contains k=false:=by
     rw[<-hk,List.contains_eq_mem,decide_eq_false_iff_not];intro hm;simp only[d3R,d5h,d6b] at hm;exact h hm
    rw[this];rfl
   ·rw[d3T hk,d5a]
  refine Q5 Tryz.func33 rfl λqa qb qc qd qe qg qh qi qj qk ql qm qo qp qq qt qu qv qw qx qy qz va vc vd ve vf vg vh vj vk vl vm vn vo vq vr vt vu vv vw vx vy hA=>?_
  obtain⟨e1,e2,e3,e4,e5,e6,e7,e8,e9⟩:=m6 hA;have hq:∀k,qk op k=(!([32,33,34,35,36,37,38,39,40,41,42,43,44,45,46,47,48,49,50,51]:List Int).contains k && (op == k)):=λk=>by rw[e9];exact hc k
  iterate 2 (try cbv;repeat ((first|with_reducible apply j6 hA|rw[hq]);cbv))
def rI (l:List Int):List (List D):=l.map λn=>[.sc (.int .i64 n)]
theorem b6M (l:List Int):(rI l).length=l.length:=by rw[rI,d4g]
theorem c9I {l:List Int} {k:Nat} {x:Int} (h:l[k]?=some x):(rI l)[k]?=some [.sc (.int .i64 x)]:=by rw[rI,d4p,h];rfl
theorem c3N {l:List Int} {x y:Int} {k:Nat} (h:l[k]?=some y):atS (l.drop k) x k=if y=x then (k:Int) else atS (l.drop (k+1)) x (k+1):=by
 obtain⟨hi,e⟩:=d3J.1 h;rw[d4c hi,e,atS]
theorem d3i (l:List Int) (x:Int) (hl:l.length<=1048576):o8 86 [.one (.sl 1 (rI l)),.one (.sc (.int .i64 x))] [.one (.sc (.int .i64 (atS l x 0)))]:=by
 obtain⟨L,hL⟩:∃L,L=rI l:=⟨_,rfl⟩;obtain⟨r,hr⟩:∃r,r=atS l x 0:=⟨_,rfl⟩;rw[<-hL,<-hr];refine Q5 Tryz.func86 rfl ?_;intro qa qb _ _ _ _ _ qi _ qk _ _ _ _ _ _ _ _ _ _ _ _ va vc;intros;rename_i hA;cbv;refine gn ?_;obtain⟨e1,e2,e3,e4,e5,e6,e7,e8,e9⟩:=m6 hA;obtain⟨r1,r2,-⟩:=B3 hA;refine n9 hA (γ:=Int) (λz=>[(5,vi .i64 z)]) (λz=>[]) (λz=>∃k:Nat,z=(k:Int)/\k<=l.length/\r=atS (l.drop k) x k) (λz=>l.length - z.toNat) 0 ?_ ?_ ?_
 ·exact⟨0,rfl,d4o _,hr⟩
 ·cbv
 ·intro z hinv;cbv
  repeat ((with_reducible apply j6 hA);cbv)
  obtain⟨k,hz,hk,hR⟩:=hinv;replace hz:z=(k:Int):=hz;have hll:va L=((l.length:Nat):Int):=by rw[r1,hL,b6M]
  have hlt:qi z (va L)=decide (k<l.length):=by rw[e7,hll,hz];exact d3X.2 (by omega)
  by_cases h9:k<l.length
  ·rw[d3S h9] at hlt;obtain⟨y,hy⟩:∃y,l[k]?=some y:=⟨_,d3H h9⟩;rw[c3N hy] at hR;have gx:vc L z=some [.sc (.int .i64 y)]:=by rw[r2,hz,d3I (by omega),hL,show ((k:Int)).toNat=k by omega,c9I hy]
   have heq:qk y x=decide (y=x):=by rw[e9];rfl
   have hz1:qa .i64 (qb z 1)=((k+1:Nat):Int):=by rw[e1,e2,hz,IntWalk.i64_in _ (by omega)];omega
   have hmu:l.length - (qa .i64 (qb z 1)).toNat<l.length - z.toNat:=by rw[hz1,hz];omega
   by_cases hyx:y=x
   ·rw[d3I hyx] at hR;rw[d3S hyx] at heq;have hzr:z=r:=by rw[hz,hR]
    subst hzr;rw[hlt];cbv
    repeat (first|(with_reducible apply j6 hA;cbv)|(rw[gx];cbv)|(rw[heq];cbv))
   ·rw[d3G hyx] at hR;rw[d3P hyx] at heq;rw[hlt];cbv
    repeat (first|(with_reducible apply j6 hA;cbv)|(rw[gx];cbv)|(rw[heq];cbv))
    refine⟨qa .i64 (qb z 1),⟨k+1,hz1,h9,hR⟩,hmu,?_⟩;cbv
  ·rw[d3P h9] at hlt;rw[d5w (by omega),atS] at hR;subst hR;rw[hlt];cbv
   repeat ((with_reducible apply j6 hA);cbv)
theorem c9J:∀(l:List Int) (x:Int) (k:Nat),0<=atS l x k↔x∈l:=λl x k=>by
 by_cases h:x∈l
 ·exact⟨λ_=>h,λ_=>b8i l x k h⟩
 ·rw[b4C l x k h];exact⟨λe=>absurd e (by decide),λe=>absurd e h⟩
theorem d3j (l:List Int) (x:Int) (hl:l.length<=1048576):o8 67 [.one (.sl 1 (rI l)),.one (.sc (.int .i64 x))] [.one (.sc (.bool (decide (x∈l))))]:=by
 have h1:=d3i l x hl;have h2:decide (0<=atS l x 0)=decide (x∈l):=d3X.2 (c9J l x 0);generalize decide (x∈l)=b at *;generalize rI l=L at *;generalize atS l x 0=r at *;refine Q5 Tryz.func67 rfl ?_;intro _ _ _ _ _ _ _ _ qj;intros;rename_i hA;have h8:qj 0 r=b:=by have e:=m6 hA;rw[e.2.2.2.2.2.2.2.1,h2]
 cbv
 repeat (first|(with_reducible apply j6 hA;cbv)|(refine j8 hA _ h1 rfl ?_;cbv)|(rw[h8];cbv))
theorem b8H (l:List Int) (x:Int):rI (l++[x])=rI l++[[.sc (.int .i64 x)]]:=by unfold rI;rw[d45];rfl
def nmI (v i:Bool) (x y:List Int):List Int:=match v with|true=>(match i with|true=>y|false=>x)|false=>y
theorem c9K (t:Ty) (ht:t.parts.length<=1048576) (hst:∀x∈t.parts,a03 x):o8 43 [.ag (cT t)] [.one (.sl 1 (rI (a4i t)))]:=by
 have hp:=a5g _ t (d3Q _) hst;have h1:=c5G _ t (d3Q _) ht hst;have h2:=b8n (y9 t) (by omega);have hv:a4i t=H7 (y9 t).parts []:=rfl;obtain⟨a0,a1,a2,a3,ha⟩:=m8 t;obtain⟨c0,c1,c2,c3,hc⟩:=m8 (y9 t);rw[ha,hc] at h1;rw[hc] at h2;rw[ha];generalize (y9 t).parts=ps at *;obtain⟨P,hP⟩:∃P,P=rT ps:=⟨_,rfl⟩;obtain⟨Q,hQ⟩:∃Q,Q=rI (a4i t):=⟨_,rfl⟩;rw[<-hP] at h2;rw[<-hQ];have hps:ps.length<=1048576:=by omega
 refine Q5 Tryz.func43 rfl ?_;intro qa qb _ _ _ _ _ qi _ qk _ _ _ _ _ _ _ _ _ _ _ _ va vc _ ve;intros;rename_i hA;cbv
 repeat (first|(refine a3b hA 3 3 true rfl ?_;cbv)|(with_reducible apply j6 hA;cbv)|(refine j8 hA _ h1 rfl ?_;cbv)|(refine j8 hA _ h2 rfl ?_;cbv))
 obtain⟨e1,e2,e3,e4,e5,e6,e7,e8,e9⟩:=m6 hA;obtain⟨r1,r2,r3,r4⟩:=B3 hA;refine n9 hA (γ:=Int×List (List D)) (λx=>[(5,vi .i64 x.1),(3,.own 1)]) (λx=>[(1,.row true 3 x.2)]) (λx=>∃k:Nat,x.1=(k:Int)/\k<=ps.length/\x.2=rI (H7 (ps.take k) [])) (λx=>ps.length - x.1.toNat) (0,[]) ?_ ?_ ?_
 ·exact⟨0,rfl,d4o _,rfl⟩
 ·cbv
 ·intro x hinv;obtain⟨z,M⟩:=x;cbv;refine gn ?_;obtain⟨k,hz,hk,hM⟩:=hinv;replace hz:z=(k:Int):=hz;replace hM:M=rI (H7 (ps.take k) []):=hM;have hll:va P=((ps.length:Nat):Int):=by rw[r1,hP,M4]
  have hlt:qi z (va P)=decide (k<ps.length):=by rw[e7,hll,hz];exact d3X.2 (by omega)
  by_cases h9:k<ps.length
  ·rw[d3S h9] at hlt;obtain⟨x,hx⟩:∃x,ps[k]?=some x:=⟨_,d3H h9⟩;have hal:=a7I (ps.take k) [];rw[d4n,d3Y] at hal;have hsn:=b0n (ps.take k) [] x;rw[show ps.take k++[x]=ps.take (k+1) by rw[d5D,hx];rfl] at hsn;obtain⟨op,nm,n,ks⟩:=x;have gx:vc P z=some [.sc (.int .u8 op),.sc (.string nm),.sc (.int .i64 n),.sl 4 (rT ks)]:=by rw[r2,hz,d3I (by omega),hP,show ((k:Int)).toNat=k by omega,a1q hx,cT]
   generalize rT ks=K1 at *;generalize H7 (ps.take k) []=acc at *;have h3:=d3j acc n (by omega);rw[<-hM] at h3;have hz1:qa .i64 (qb z 1)=((k+1:Nat):Int):=by rw[e1,e2,hz,IntWalk.i64_in _ (by omega)];omega
   have hmu:ps.length - (qa .i64 (qb z 1)).toNat<ps.length - z.toNat:=by rw[hz1,hz];omega
   have hMl:M.length<=1048576:=by rw[hM,b6M];omega
   have hadd:ve M [[.sc (.int .i64 n)]]=rI (acc++[n]):=by rw[r4,b8H,hM]
   have q7:qk op 7=(op == 7):=e9 _ _;have q10:qk op 10=(op == 10):=e9 _ _;have hiv:a1H (Ty.mk op nm n ks)=((op == 7) || (op == 10)):=rfl;rw[hiv,show (Ty.mk op nm n ks).n=n from rfl] at hsn;have hsn2:H7 (ps.take (k+1)) []=nmI ((op == 7) || (op == 10)) (decide (n∈acc)) (acc++[n]) acc:=by rw[hsn];cases ((op == 7) || (op == 10)) <;> by_cases hn:n∈acc <;> simp[nmI,hn]
   clear hsn hiv;rw[hlt];generalize (op == 7)=b7 at *;generalize (op == 10)=b10 at *;generalize decide (n∈acc)=bi at *;cases b7 <;> cases b10 <;> cases bi
   all_goals
    cbv
    repeat (first|(with_reducible apply j6 hA;cbv)|(rw[gx];cbv)|(rw[q7];cbv)|(rw[q10];cbv)|(refine j8 hA _ h3 rfl ?_;cbv)|(refine E2 hA true ?_;cbv)|(refine F3 hA (by simp only[d3O,d3Y];omega) ?_;cbv))
    first
    | (refine⟨(qa .i64 (qb z 1),M),⟨k+1,hz1,h9,by rw[hsn2];exact hM⟩,hmu,?_⟩;cbv;done)
    | (refine⟨(qa .i64 (qb z 1),ve M [[.sc (.int .i64 n)]]),⟨k+1,hz1,h9,by rw[hsn2];exact hadd⟩,hmu,?_⟩;cbv)
  ·rw[d3P h9] at hlt;have hM2:M=Q:=by rw[hM,d4z (by omega),hQ,hv]
   rw[hlt];cbv;refine gn ?_;exact⟨by rw[hM2],trivial⟩
def vO (es:List (R×R)) (L:List (List D)):List O:=[.box [.mp 2],.box [.own 3],.mp 3 es,.row true 3 L]
def b0H (acc:List Int) (x:Ty):List Int:=if a1H x=true/\x.n∉acc then acc++[x.n] else acc
def a6i (acc:List Int):Int->Option Bool:=λn=>if n∈acc then some true else none
theorem SAt.add {es:List (R×R)} {acc:List Int} (h:SAt es (a6i acc)) (n:Int):SAt (a2T es (ik n) (.one (.sc (.bool true)))) (a6i (acc++[n])):=by
 have h2:=h.set n true
 have e:b00 (a6i acc) n true=a6i (acc++[n]):=by
  funext x
  unfold b00 a6i
  by_cases hx:x=n
  ·subst hx;simp
  ·simp[hx]
 rw[e] at h2;exact h2
theorem c6H (x:Ty) (acc:List Int) (es:List (R×R)) (hes:SAt es (a6i acc)) (hacc:acc.length<=1048576) :
  y7 97 [.ag (C0 (cT x)),.ptr 0 0,.ptr 1 0] (vO es (rI acc)) (λres os=>res=[]/\∃es',SAt es' (a6i (b0H acc x))/\os=vO es' (rI (b0H acc x))):=by
 obtain⟨op,nm,n,ks⟩:=x;have hlk:=hes.2 n;have hmem:(a6i acc n).map (λb=>R.one (.sc (.bool b)))=if n∈acc then some (R.one (.sc (.bool true))) else none:=by unfold a6i;by_cases h:n∈acc <;> simp[h]
 rw[hmem] at hlk;have hset:=hes.add n;have hadd:b0H acc (.mk op nm n ks)=if ((op == 7) || (op == 10))=true/\n∉acc then acc++[n] else acc:=rfl
 rw[hadd];have hsnoc:=b8H acc n;obtain⟨Q,hQ⟩:∃Q:List V->List O->Prop,Q=(λres os=>res=[]/\∃es',SAt es' (a6i (if ((op == 7) || (op == 10))=true/\n∉acc then acc++[n] else acc))/\os=vO es' (rI (if ((op == 7) || (op == 10))=true/\n∉acc then acc++[n] else acc))):=⟨_,rfl⟩;rw[<-hQ]
 have hQ1:((op == 7) || (op == 10))=true->n∉acc->Q [] (vO (a2T es (ik n) (.one (.sc (.bool true)))) (rI (acc++[n]))):=λh1 h2=>by
  rw[hQ];refine⟨rfl,a2T es (ik n) (.one (.sc (.bool true))),?_,?_⟩
  ·rw[d3I ⟨h1,h2⟩];exact hset
  ·rw[d3I ⟨h1,h2⟩]
 have hQ2:((op == 7) || (op == 10))=false\/n∈acc->Q [] (vO es (rI acc)):=λh=>by
  have hn:¬(((op == 7) || (op == 10))=true/\n∉acc):=by
   rintro ⟨h1,h2⟩
   rcases h with h|h
   ·rw[h] at h1;cases h1
   ·exact h2 h
  rw[hQ];refine⟨rfl,es,?_,?_⟩
  ·rw[d3G hn];exact hes
  ·rw[d3G hn]
 clear hQ hset hmem hadd hes;obtain⟨M,hM⟩:∃M,M=rI acc:=⟨_,rfl⟩;obtain⟨es2,he2⟩:∃e,e=a2T es (ik n) (.one (.sc (.bool true))):=⟨_,rfl⟩;have hMl:M.length<=1048576:=by rw[hM,b6M];exact hacc
 rw[<-hM] at hQ2 ⊢;rw[hsnoc,<-hM,<-he2] at hQ1;clear hsnoc;rw[cT];obtain⟨K,hK⟩:∃K,K=rT ks:=⟨_,rfl⟩;rw[<-hK];unfold vO at hQ1 hQ2 ⊢;unfold ik at hlk he2;refine so9 Tryz.func97 rfl ?_;intro _ _ _ _ _ _ _ _ _ qk _ _ _ _ _ _ _ _ _ _ _ _ _ _ _ ve _ _ vh vj;intros;rename_i hA;cbv;refine gn ?_;obtain⟨e1,e2,e3,e4,e5,e6,e7,e8,e9⟩:=m6 hA;obtain⟨r1,r2,r3,r4⟩:=B3 hA;obtain⟨m1,m2,-⟩:=a0X hA;have q7:qk op 7=(op == 7):=e9 _ _;have q10:qk op 10=(op == 10):=e9 _ _;have hl:vh es (.one (.sc (.int .i64 n)))=if n∈acc then some (R.one (.sc (.bool true))) else none:=by rw[m1];exact hlk
 have hp:vj es (.one (.sc (.int .i64 n))) (.one (.sc (.bool true)))=es2:=by rw[m2,he2]
 have ha:ve M [[.sc (.int .i64 n)]]=M++[[.sc (.int .i64 n)]]:=r4 _ _;generalize (op == 7)=b7 at *;generalize (op == 10)=b10 at *
 by_cases hm:n∈acc
 ·rw[d3I hm] at hl;replace hQ2:=hQ2 (.inr hm);cases b7 <;> cases b10
  all_goals
   iterate 2 (try cbv;repeat ((first|with_reducible apply j6 hA|rw[q7]|rw[q10]|rw[hl]);cbv))
   try simp (maxSteps:=4000000) only [nc] at *
   exact n7 hA [0,1,2,3] ⟨rfl,rfl,rfl,rfl,rfl,rfl,rfl,rfl⟩ hQ2
 ·rw[d3G hm] at hl;cases b7 <;> cases b10
  ·replace hQ2:=hQ2 (.inl rfl)
   iterate 2 (try cbv;repeat ((first|with_reducible apply j6 hA|rw[q7]|rw[q10]|rw[hl]);cbv))
   try simp (maxSteps:=4000000) only [nc] at *
   exact n7 hA [0,1,2,3] ⟨rfl,rfl,rfl,rfl,rfl,rfl,rfl,rfl⟩ hQ2
  all_goals
   replace hQ1:=hQ1 rfl hm;rw[<-ha] at hQ1
   iterate 2 (try cbv;repeat ((first|with_reducible apply j6 hA|rw[q7]|rw[q10]|rw[hl]|rw[hp]|refine E2 hA true ?_|(refine F3 hA (by simp only[d3O,d3Y];omega) ?_));cbv))
   try simp (maxSteps:=4000000) only [nc] at *
   exact n7 hA [0,1,2,3] ⟨rfl,rfl,rfl,rfl,rfl,rfl,rfl,rfl⟩ hQ1
theorem a7b:∀(a b:List Ty) (acc:List Int),H7 (a++b) acc=H7 b (H7 a acc)
 | [],b,acc=>rfl
 | x::a,b,acc=>by rw[d43,H7,H7];exact a7b a b _
theorem a8v {ks:List Ty} {k:Nat} {x:Ty} (h:ks[k]?=some x):F7 (ks.take (k+1))=F7 (ks.take k)++x.parts:=by
 rw[a0N,a0N,(b47 ks k x h).2]
theorem c9L:∀(t:Ty) (acc:List Int) (es:List (R×R)),SAt es (a6i acc)->acc.length+t.parts.length<=1048576 ->
  y7 95 [.ag (C0 (cT t)),.cl 97 [0,1]] (vO es (rI acc)) (λres os=>res=[]/\∃es',SAt es' (a6i (H7 t.parts acc))/\os=vO es' (rI (H7 t.parts acc))):=by
 intro t
 induction t using Ty.ind with
 | h t ih =>
  intro acc es hes hN;have hcl:=c6H t acc es hes (by omega);have hkl:=J7 t;have hpe:t.parts=t::F7 t.kids:=J4 t;have hpl:t.parts.length=1+(F7 t.kids).length:=by rw[hpe,d3O];omega
  have hvl:H7 t.parts acc=H7 (F7 t.kids) (b0H acc t):=by rw[hpe,H7];rfl
  have hal:(b0H acc t).length<=acc.length+1:=by unfold b0H;split <;> simp
  rw[hvl];obtain⟨Q,hQ⟩:∃Q:List V->List O->Prop,Q=(λres os=>res=[]/\∃es',SAt es' (a6i (H7 (F7 t.kids) (b0H acc t)))/\os=vO es' (rI (H7 (F7 t.kids) (b0H acc t)))):=⟨_,rfl⟩;rw[<-hQ];have hQ1:∀es',SAt es' (a6i (H7 (F7 t.kids) (b0H acc t)))->Q [] (vO es' (rI (H7 (F7 t.kids) (b0H acc t)))):=λes' h=>by rw[hQ];exact⟨rfl,es',h,rfl⟩
  clear hQ hvl hpe;generalize b0H acc t=ac1 at *;obtain⟨op,nm,n,ks⟩:=t;simp only[Ty.kids] at hkl ih hpl hQ1
  have hxp:∀k,k<=ks.length->(F7 (ks.take k)).length<=(F7 ks).length:=λk _=>by
   conv=>rhs;rw[<-d46 k ks]
   rw[a0N,a0N,d4Q,d3K];omega
  rw[cT] at hcl ⊢;obtain⟨K,hK⟩:∃K,K=rT ks:=⟨_,rfl⟩;rw[<-hK] at hcl ⊢;obtain⟨M,hM⟩:∃M,M=rI acc:=⟨_,rfl⟩;rw[<-hM] at hcl ⊢;unfold vO at hcl hQ1 ⊢;refine so9 Tryz.func95 rfl ?_;intro qa qb _ _ _ _ _ qi _ _ _ _ _ _ _ _ _ _ _ _ _ _ va vc;intros;rename_i hA;cbv;refine gn ?_;obtain⟨e1,e2,e3,e4,e5,e6,e7,e8,e9⟩:=m6 hA;obtain⟨r1,r2,r3,r4⟩:=B3 hA;refine A1 hA [0,1,2,3] hcl ⟨rfl,rfl,rfl,rfl,rfl,rfl,rfl⟩ ?_
  rintro res os2 ⟨rfl,es1,hes1,rfl⟩
  obtain⟨M1,hM1⟩:∃M,M=rI ac1:=⟨_,rfl⟩;rw[<-hM1];cbv;refine gn ?_
  refine n9 hA (γ:=Int×List (R×R)×List (List D)) (λx=>[(12,vi .i64 x.1)]) (λx=>[(2,.mp 3 x.2.1),(3,.row true 3 x.2.2)])
   (λx=>∃k:Nat,x.1=(k:Int)/\k<=ks.length/\SAt x.2.1 (a6i (H7 (F7 (ks.take k)) ac1))/\x.2.2=rI (H7 (F7 (ks.take k)) ac1)) (λx=>ks.length - x.1.toNat) (0,es1,M1) ?_ ?_ ?_
  ·exact⟨0,rfl,d4o _,by rw[d6t,F7,H7];exact hes1,by rw[d6t,F7,H7];exact hM1⟩
  ·cbv
  ·intro x hinv;obtain⟨z,es2,M2⟩:=x;cbv;refine gn ?_;try simp only[nc] at *
   obtain⟨k,hz,hk,hes2,hM2⟩:=hinv;have hlen:va K=(ks.length:Int):=by rw[r1,hK,M4]
   have hlt:qi z (va K)=decide (k<ks.length):=by rw[e7,hlen,hz];exact d3X.2 (by omega)
   by_cases h9:k<ks.length
   ·rw[d3S h9] at hlt;obtain⟨x,hx⟩:∃x,ks[k]?=some x:=⟨_,d3H h9⟩;have hvl2:=a7I (F7 (ks.take k)) ac1;have hx1:=hxp (k+1) (by omega);rw[a8v hx,d3K] at hx1;have hstep:H7 (F7 (ks.take (k+1))) ac1=H7 x.parts (H7 (F7 (ks.take k)) ac1):=by rw[a8v hx,a7b]
    have hsp:=ih x (d3U hx) _ es2 hes2 (by omega);rw[<-hM2,<-hstep] at hsp;obtain⟨M3,hM3⟩:∃M,M=rI (H7 (F7 (ks.take (k+1))) ac1):=⟨_,rfl⟩;rw[<-hM3] at hsp;obtain⟨x0,x1,x2,x3,hxx⟩:=m8 x;have g1:vc K z=some [x0,x1,x2,x3]:=by rw[r2,hz,d3I (by omega),hK,d4j,a1q hx,hxx]
    have hz1:qa .i64 (qb z 1)=((k+1:Nat):Int):=by rw[e1,e2,hz,IntWalk.i64_in _ (by omega)];omega
    have hmu:ks.length - (qa .i64 (qb z 1)).toNat<ks.length - z.toNat:=by rw[hz1,hz];omega
    rw[hxx] at hsp;unfold vO at hsp;rw[hlt];cbv
    repeat (first|(with_reducible apply j6 hA;cbv)|(rw[g1];cbv))
    refine A1 hA [0,1,2,3] hsp ⟨rfl,rfl,rfl,rfl,rfl,rfl,rfl⟩ ?_
    rintro res os2 ⟨rfl,es3,hes3,rfl⟩
    cbv;refine gn ?_;refine⟨(qa .i64 (qb z 1),es3,M3),⟨k+1,hz1,h9,hes3,hM3⟩,hmu,?_⟩;cbv
   ·rw[d3P h9] at hlt;rw[hlt];rw[d4z (by omega)] at hes2 hM2;replace hQ1:=hQ1 es2 hes2;rw[<-hM2] at hQ1;cbv;refine gn ?_;exact n7 hA [0,1,2,3] ⟨rfl,rfl,rfl,rfl,rfl,rfl,rfl,rfl⟩ hQ1
theorem o8.one0 {f:Nat} {rs:List R} {n:Nat} (m:Nat) (h:o8 f rs [.one (.sl n [])]):o8 f rs [.one (.sl m [])]:=h.mono λI w v hv=>AtD.empty m hv
theorem c6I (t:Ty) (ht:Sm t):o8 81 [.ag (cT t)] [.one (.sl 1 (rI (if N1 t=true then a4i t else [])))]:=by
 have h1:=b01 t ht.1 ht.2;have hb:(G2 t 116 || G2 t 114)=N1 t:=rfl;rw[hb] at h1
 by_cases he:N1 t=true
 ·rw[d3I he];have h2:=b4S _ t (d3Q _) ht.1 (a3Z he);have h3:=c9L (y9 t) [] [] ⟨SAt.nil.1,λn=>by rw[SAt.nil.2];rfl⟩ (by rw[a5g _ t (d3Q _) (a3Z he)];simpa using ht.1);rw[show H7 (y9 t).parts []=a4i t from rfl] at h3;rw[he] at h1;obtain⟨L,hL⟩:∃L,L=rI (a4i t):=⟨_,rfl⟩;rw[<-hL] at h3 ⊢;obtain⟨a0,a1,a2,a3,ha⟩:=m8 t;obtain⟨c0,c1,c2,c3,hc⟩:=m8 (y9 t);rw[ha] at h1 h2 ⊢;rw[hc] at h2 h3;unfold vO at h3;refine Q5 Tryz.func81 rfl λqa qb qc qd qe qg qh qi qj qk ql qm qo qp qq qt qu qv qw qx qy qz va vc vd ve vf vg vh vj vk vl vm vn vo vq vr vt vu vv vw vx vy hA=>?_
  cbv
  repeat (first|(refine j8 hA _ h1 rfl ?_;cbv)|(refine a7B hA 1 0 3 true rfl rfl ?_;cbv)|(refine j8 hA _ h2 rfl ?_;cbv)|(with_reducible apply j6 hA;cbv))
  refine A1 hA [4,1,3,2] h3 ⟨rfl,rfl,rfl,rfl,rfl,rfl,rfl⟩ ?_
  rintro res os2 ⟨rfl,es3,hes3,rfl⟩
  cbv
  repeat ((with_reducible apply j6 hA);cbv)
 ·have he:N1 t=false:=by simpa using he
  rw[he,d3G (by simp)];rw[he] at h1;obtain⟨a0,a1,a2,a3,ha⟩:=m8 t;rw[ha] at h1 ⊢;refine o8.one0 (n:=0) 1 ?_;refine Q5 Tryz.func81 rfl λqa qb qc qd qe qg qh qi qj qk ql qm qo qp qq qt qu qv qw qx qy qz va vc vd ve vf vg vh vj vk vl vm vn vo vq vr vt vu vv vw vx vy hA=>?_
  iterate 2 (try cbv;repeat ((first|with_reducible apply j6 hA|refine j8 hA _ h1 rfl ?_);cbv))
def a2P (t:Ty):Bool:=N1 t && (a4i t).isEmpty
theorem c3O (t:Ty) (ht:Sm t) (hN:t.parts.length<=1048576) (hnm:∀x∈t.parts,x.name.size<=1048576):o8 57 [.ag (cT t)] [.one (.sc (.bool (a2P t)))]:=by
 have h0:=b01 t hN hnm;have h1:=c6I t ht;rw[show (G2 t 116 || G2 t 114)=N1 t from rfl] at h0;unfold a2P;obtain⟨a0,a1,a2,a3,haa⟩:=m8 t;rw[haa] at h0 h1 ⊢;obtain⟨b,hb⟩:∃b,b=N1 t:=⟨_,rfl⟩;rw[<-hb] at h0 h1 ⊢;obtain⟨V,hV⟩:∃V,V=rI (if b=true then a4i t else []):=⟨_,rfl⟩;obtain⟨c,hc⟩:∃c,c=((V.length:Int) == 0):=⟨_,rfl⟩
 have hcb:b=true->(a4i t).isEmpty=c:=λh=>by
  rw[hc,hV,d3I h];cases hv:a4i t with
  | nil=>rfl
  | cons x l=>exact(d3T (show ((rI (x::l)).length:Int)≠0 by unfold rI;rw[d4g,d3O];omega)).symm
 rw[<-hV] at h1;obtain⟨m,hm⟩:∃m:Int,m=(V.length:Int):=⟨_,rfl⟩;rw[<-hm] at hc;refine Q5 Tryz.func57 rfl ?_;intros;rename_i hA;have q0:=en hA hm.symm;have q1:=eb hA hc.symm;cases b
 ·try cbv;exact fr
 ·rw[hcb rfl]
  try cbv;exact fr
theorem c6J (op:Int) (nm ar:ByteArray) (n:Int) (h:Bool) (a:Ty) (ks:List Tm) (v:Nat) (hv:v<=100) (ht:Sm a) (hN:a.parts.length<=1048576) (hnm:∀x∈a.parts,x.name.size<=1048576) :
  o8 35 [.ag (cM (.mk op nm ar n h a ks)),.one (.sc (.int .i64 (v:Int)))] [.one (.sc (.bool (if h=true then decide (0<v) && (G2 a 116 && a2P a) else decide (v<2) && a0A a)))]:=by
 have h0:=b4W a hN hnm;have h1:=c3O a ht hN hnm;have h2:=c6F a;obtain⟨a0,a1,a2,a3,haa⟩:=m8 a;rw[cM,haa];rw[haa] at h0 h1 h2;generalize rM ks=K at *;have w1:decide ((0:Int)<(v:Int))=decide (0<v):=d3X.2 (by omega);have w2:decide ((v:Int)<2)=decide (v<2):=d3X.2 (by omega);generalize decide (0<v)=c1 at *;generalize decide (v<2)=c2 at *;generalize ((v:Nat):Int)=z at *;generalize G2 a 116=r at *;generalize a2P a=cl at *;generalize a0A a=bl at *;refine Q5 Tryz.func35 rfl ?_;intros;rename_i hA;have q1:=el hA w1;have q2:=el hA w2;cases h
 ·rw[d3G (by decide)];cases c2
  ·try cbv;exact fr
  ·try cbv;exact fr
 ·rw[d3I rfl];cases c1
  ·try cbv;exact fr
  ·cases r
   ·try cbv;exact fr
   ·try cbv;exact fr
end Go.Proofs.YtdjnoafijjepcaaGreat.Vm
end
