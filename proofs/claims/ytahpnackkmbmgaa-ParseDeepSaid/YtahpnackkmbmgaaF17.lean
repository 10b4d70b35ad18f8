/- Part 17 of the proof. Conditions: none. -/
import Derived.Test.YtahpnackkmbmgaaF4
import Derived.Test.YtahpnackkmbmgaaF6
import Derived.Test.YtahpnackkmbmgaaF10
import Derived.Test.YtahpnackkmbmgaaF16
import Derived.Test.YtahpnackkmbmgaaRows
import Derived.Deep.Slices
import Derived.WideShapes
import Derived.ChangeArms
import Derived.Test.YtahpnackkmbmgaaF0
set_option linter.all false
set_option linter.unusedVariables false
set_option linter.unusedSimpArgs false
section
namespace Go.Proofs.Ytahpnackkmbmgaa.Vm
open Go.RowKit
set_option maxRecDepth 100000
set_option maxHeartbeats 4000000
theorem c7w {ts:List Tok} (hE:m8 ts) (hl:ts.length≤65537) {m:Nat} {L:Int} (hL1:0≤L) (hL2:L≤1048576) (hm:m=0∧200<L+1∨m≠0∧L+1≤200) {nx pr:PF} (hf:B6 ts pr) (hx:∀p:PE,p.1<ts.length→G9 125 [vi .i64 L] ts p [.ag (y5 (cP (nx p).1))] (nx p).2)
  (hr:m≠0→∀p:PE,p.1<ts.length→p.2=0→G9 117 [vi .i64 (L+1)] ts p [.ag (y5 (cP (pr p).1))] (pr p).2) {p:PE} (hp:p.1<ts.length) :
  G9 117 [vi .i64 L] ts p [.ag (y5 (cP (a51 ts m nx pr p).1))] (a51 ts m nx pr p).2:=by
 have hl2:ts.length≤1048576:=by omega
 have h0:=a4c hl2 hp
 have hsg:=a8E hl2 hp [gAt,a8T] (by decide)
 unfold a1A at hsg
 unfold a51
 by_cases s1:B3 ts gAt p=true
 ·rw [c8Y s1]
  rw [show r7 ts [gAt,a8T] p=some gAt by rw [r7,c8Y s1]] at hsg
  obtain ⟨k1,k2⟩:=n9 hE hp s1
  have h2:=a0L hl2 (p:=(p.1+1,0)) k1
  obtain ⟨b1,_,_⟩:=w9 hE (p:=(p.1+1,0)) k1
  have h3:=b1a hl2 b1 hm
  unfold a6K
  split
  ·rename_i hd
   have hq:(M3 m (i7 ts (p.1+1,0)).2).2≠0:=by
    unfold M3
    by_cases h:m=0
    ·rw [c8Y h]
     exact (C8 6 (by decide) _).2
    ·rw [c8W h]
     exact hd.resolve_left h
   rw [c9f hq] at h3
   simp only
   rw [b0h]
   exact b9S hL1 hL2 h0 hsg h2 h3
  ·rename_i hd
   have hm0:m≠0:=fun h=>hd (.inl h)
   have hq:(i7 ts (p.1+1,0)).2.2=0:=by
    by_cases h0:(i7 ts (p.1+1,0)).2.2=0
    ·exact h0
    ·exact absurd (.inr h0) hd
   rw [show M3 m (i7 ts (p.1+1,0)).2=(i7 ts (p.1+1,0)).2 by unfold M3;rw [c8W hm0],hq] at h3
   have h4:=hr hm0 _ b1 hq
   have hb:=hf _ b1
   have i1:=hb.sz
   have i2:=hb.hi
   obtain ⟨x,hxx⟩:=A8 (pr (i7 ts (p.1+1,0)).2).1
   obtain ⟨z,hz⟩:=A8 (y7 46 (i7 ts (p.1+1,0)).1 ⟨#[]⟩ (l9 ts p.1).at_ [(pr (i7 ts (p.1+1,0)).2).1])
   have ho:=a1v 46 (i7 ts (p.1+1,0)).1 ⟨#[]⟩ 0 false (l9 ts p.1).at_ [(pr (i7 ts (p.1+1,0)).2).1] (by simp) (by simp only [c9q,c9y,c9i];omega)
   rw [show cP (C0 46 (i7 ts (p.1+1,0)).1 ⟨#[]⟩ 0 false s8 (l9 ts p.1).at_ [(pr (i7 ts (p.1+1,0)).2).1])=cE z from hz,show rP [(pr (i7 ts (p.1+1,0)).2).1]=[cE x] by unfold rP;rw [c9m,c9O,hxx]] at ho
   rw [hxx] at h4
   simp only
   rw [hz]
   exact c20 ho hL1 hL2 h0 hsg h2 h3 h4
 rw [c8W s1]
 by_cases s2:B3 ts a8T p=true
 ·rw [c8Y s2]
  rw [show r7 ts [gAt,a8T] p=some a8T by rw [r7,c8W s1,r7,c8Y s2]] at hsg
  obtain ⟨k1,k2⟩:=n9 hE hp s2
  have h2:=a0L hl2 (p:=(p.1+1,0)) k1
  obtain ⟨b1,_,_⟩:=w9 hE (p:=(p.1+1,0)) k1
  have h3:=b1a hl2 b1 hm
  unfold a6K
  split
  ·rename_i hd
   have hq:(M3 m (i7 ts (p.1+1,0)).2).2≠0:=by
    unfold M3
    by_cases h:m=0
    ·rw [c8Y h]
     exact (C8 6 (by decide) _).2
    ·rw [c8W h]
     exact hd.resolve_left h
   rw [c9f hq] at h3
   simp only
   rw [b0h]
   exact b9T hL1 hL2 h0 hsg h2 h3
  ·rename_i hd
   have hm0:m≠0:=fun h=>hd (.inl h)
   have hq:(i7 ts (p.1+1,0)).2.2=0:=by
    by_cases h0:(i7 ts (p.1+1,0)).2.2=0
    ·exact h0
    ·exact absurd (.inr h0) hd
   rw [show M3 m (i7 ts (p.1+1,0)).2=(i7 ts (p.1+1,0)).2 by unfold M3;rw [c8W hm0],hq] at h3
   have h4:=hr hm0 _ b1 hq
   have hb:=hf _ b1
   have i1:=hb.sz
   have i2:=hb.hi
   obtain ⟨x,hxx⟩:=A8 (pr (i7 ts (p.1+1,0)).2).1
   obtain ⟨z,hz⟩:=A8 (y7 47 (i7 ts (p.1+1,0)).1 ⟨#[]⟩ (l9 ts p.1).at_ [(pr (i7 ts (p.1+1,0)).2).1])
   have ho:=a1v 47 (i7 ts (p.1+1,0)).1 ⟨#[]⟩ 0 false (l9 ts p.1).at_ [(pr (i7 ts (p.1+1,0)).2).1] (by simp) (by simp only [c9q,c9y,c9i];omega)
   rw [show cP (C0 47 (i7 ts (p.1+1,0)).1 ⟨#[]⟩ 0 false s8 (l9 ts p.1).at_ [(pr (i7 ts (p.1+1,0)).2).1])=cE z from hz,show rP [(pr (i7 ts (p.1+1,0)).2).1]=[cE x] by unfold rP;rw [c9m,c9O,hxx]] at ho
   rw [hxx] at h4
   simp only
   rw [hz]
   exact c21 ho hL1 hL2 h0 hsg h2 h3 h4
 rw [c8W s2]
 rw [show r7 ts [gAt,a8T] p=none by rw [r7,c8W s1,r7,c8W s2,r7]] at hsg
 have h2:=hx p hp
 obtain ⟨x,hxx⟩:=A8 (nx p).1
 rw [hxx] at h2 ⊢
 exact b9R h0 hsg h2
abbrev a6C:ByteArray:=⟨#[102,117,110]⟩
abbrev a6D:ByteArray:=⟨#[114,101,99]⟩
abbrev b3c:ByteArray:=⟨#[108,101,116]⟩
abbrev gIf:ByteArray:=⟨#[105,102]⟩
abbrev gIn:ByteArray:=⟨#[105,110]⟩
abbrev a3w:ByteArray:=⟨#[116,104,101,110]⟩
abbrev a52:ByteArray:=⟨#[60]⟩
abbrev a53:ByteArray:=⟨#[61,61]⟩
def c08 (ts:List Tok) (ex:PF) (a:Int) (w:ByteArray×PE):PL×PE:=(y7 38 w.1 ⟨#[]⟩ a [(ex (j0 ts E5 w.2)).1,(ex (j0 ts gIn (ex (j0 ts E5 w.2)).2)).1],(ex (j0 ts gIn (ex (j0 ts E5 w.2)).2)).2)
def ifW (ts:List Tok) (ex:PF) (a:Int) (e:PL×PE):PL×PE:=(y7 39 ⟨#[]⟩ ⟨#[]⟩ a [e.1,(ex (j0 ts a3w e.2)).1,(ex (j0 ts U7 (ex (j0 ts a3w e.2)).2)).1],(ex (j0 ts U7 (ex (j0 ts a3w e.2)).2)).2)
def b7o (ts:List Tok) (sm:PF) (a:Int) (s:PL×PE):PL×PE :=
 if B3 ts a52 s.2=true then (y7 40 a52 ⟨#[]⟩ a [s.1,(sm (s.2.1+1,0)).1],(sm (s.2.1+1,0)).2)
 else if B3 ts a53 s.2=true then (y7 40 a53 ⟨#[]⟩ a [s.1,(sm (s.2.1+1,0)).1],(sm (s.2.1+1,0)).2)
 else s
def a0e (ts:List Tok) (n:Nat) (ex sm:PF) (p:PE):PL×PE :=
 if p.2≠0 then (zPL,p)
 else if B3 ts a6C p=true then H2 ts n ex (l9 ts p.1).at_ false (p.1+1,0)
 else if B3 ts a6D p=true then H2 ts n ex (l9 ts p.1).at_ true (p.1+1,0)
 else if B3 ts b3c p=true then c08 ts ex (l9 ts p.1).at_ (i7 ts (p.1+1,0))
 else if B3 ts gIf p=true then ifW ts ex (l9 ts p.1).at_ (ex (p.1+1,0))
 else b7o ts sm (l9 ts p.1).at_ (sm p)
theorem b0t (ts:List Tok) (n:Nat) (ex sm:PF) (p:PE) (h:p.2≠0):a0e ts n ex sm p=(zPL,p):=by unfold a0e;rw [c8Y h]
theorem b1z (op:Int) (nm:ByteArray) (a:Int) (ks:List PL) (hn:ks.length≤1048576) (hf:(ks.flatMap fun p=>p.2).length≤1048576):∃z,cP (y7 op nm ⟨#[]⟩ a ks)=cE z∧OvN op nm ⟨#[]⟩ 0 false a (rP ks) z:=by
 obtain ⟨z,hz⟩:=A8 (y7 op nm ⟨#[]⟩ a ks)
 have ho:=a1v op nm ⟨#[]⟩ 0 false a ks hn hf
 rw [show cP (C0 op nm ⟨#[]⟩ 0 false s8 a ks)=cE z from hz] at ho
 exact ⟨z,hz,ho⟩
theorem c52 {ts:List Tok} (hE:m8 ts) (hN:T5 ts) (hl:ts.length≤65537) (n:Nat) (L:Int) (hv:a1y n L) (hn:1≤n) {ex sm:PF} (hf:B6 ts ex) (hsf:B6 ts sm) (hx:∀p:PE,p.1<ts.length→G9 37 [vi .i64 (L+1)] ts p [.ag (y5 (cP (ex p).1))] (ex p).2)
  (hs:∀p:PE,p.1<ts.length→G9 66 [vi .i64 L] ts p [.ag (y5 (cP (sm p).1))] (sm p).2) {p:PE} (hp:p.1<ts.length) :
  G9 37 [vi .i64 L] ts p [.ag (y5 (cP (a0e ts n ex sm p).1))] (a0e ts n ex sm p).2:=by
 have hl2:ts.length≤1048576:=by omega
 have hL:L≤200∧0≤L:=by unfold a1y at hv;omega
 have hn0:n≠0:=by omega
 have hd:=b1a hl2 hp (n:=n) (L:=L) (.inr ⟨hn0,hL.1⟩)
 rw [show M3 n p=p by unfold M3;rw [c8W hn0]] at hd
 have h1:=a4c hl2 hp
 unfold a0e
 by_cases h0:p.2=0
 ·rw [c8W (fun h=>h h0)]
  rw [h0] at hd
  have g2:=Y9 hl2 hp a6C
  by_cases s1:B3 ts a6C p=true
  ·rw [c8Y s1]
   rw [s1,a5z s1] at g2
   have h3:=a8Q hE hN hl n L hv (by omega) hf hx (l9 ts p.1).at_ false (p:=(p.1+1,0)) (n9 hE hp s1).1
   obtain ⟨z,hz⟩:=A8 (H2 ts n ex (l9 ts p.1).at_ false (p.1+1,0)).1
   rw [hz] at h3 ⊢
   exact c5c hd h1 g2 h3
  rw [c8W s1]
  replace s1:B3 ts a6C p=false:=by simpa using s1
  rw [s1,a50 s1] at g2
  have g3:=Y9 hl2 hp a6D
  by_cases s2:B3 ts a6D p=true
  ·rw [c8Y s2]
   rw [s2,a5z s2] at g3
   have h3:=a8Q hE hN hl n L hv (by omega) hf hx (l9 ts p.1).at_ true (p:=(p.1+1,0)) (n9 hE hp s2).1
   obtain ⟨z,hz⟩:=A8 (H2 ts n ex (l9 ts p.1).at_ true (p.1+1,0)).1
   rw [hz] at h3 ⊢
   exact c5d hd h1 g2 g3 h3
  rw [c8W s2]
  replace s2:B3 ts a6D p=false:=by simpa using s2
  rw [s2,a50 s2] at g3
  have g4:=Y9 hl2 hp b3c
  by_cases s3:B3 ts b3c p=true
  ·rw [c8Y s3]
   rw [s3,a5z s3] at g4
   obtain ⟨k1,_⟩:=n9 hE hp s3
   have h5:=a0L hl2 (p:=(p.1+1,0)) k1
   obtain ⟨b1,_,_⟩:=w9 hE (p:=(p.1+1,0)) k1
   generalize i7 ts (p.1+1,0)=w at *
   have h6:=I5 hl2 b1 E5
   obtain ⟨c1,_,_⟩:=j7 (s:=E5) hE b1
   have h7:=hx _ c1
   have hb:=hf _ c1
   unfold c08
   generalize ex (j0 ts E5 w.2)=e1 at *
   have h8:=I5 hl2 hb.hi gIn
   obtain ⟨c2,_,_⟩:=j7 (s:=gIn) hE hb.hi
   have h9:=hx _ c2
   have hb2:=hf _ c2
   generalize ex (j0 ts gIn e1.2)=e2 at *
   have i1:=hb.sz
   have i2:=hb.hi
   have i3:=hb2.sz
   have i4:=hb2.hi
   obtain ⟨x,hxx⟩:=A8 e1.1
   obtain ⟨y,hyy⟩:=A8 e2.1
   obtain ⟨z,hz,ho⟩:=b1z 38 w.1 (l9 ts p.1).at_ [e1.1,e2.1] (by simp) (by simp only [c9q,c9y,c9i,c8U];omega)
   rw [show rP [e1.1,e2.1]=[cE x,cE y] by unfold rP;rw [c9m,c9m,c9O,hxx,hyy]] at ho
   rw [hxx] at h7
   rw [hyy] at h9
   simp only
   rw [hz]
   exact c5e ho hL.2 (by omega) hd h1 g2 g3 g4 h5 h6 h7 h8 h9
  rw [c8W s3]
  replace s3:B3 ts b3c p=false:=by simpa using s3
  rw [s3,a50 s3] at g4
  have g5:=Y9 hl2 hp gIf
  by_cases s4:B3 ts gIf p=true
  ·rw [c8Y s4]
   rw [s4,a5z s4] at g5
   obtain ⟨k1,_⟩:=n9 hE hp s4
   have h6:=hx (p.1+1,0) k1
   have hb:=hf (p.1+1,0) k1
   unfold ifW
   generalize ex (p.1+1,0)=e1 at *
   have h7:=I5 hl2 hb.hi a3w
   obtain ⟨c1,_,_⟩:=j7 (s:=a3w) hE hb.hi
   have h8:=hx _ c1
   have hb2:=hf _ c1
   generalize ex (j0 ts a3w e1.2)=e2 at *
   have h9:=I5 hl2 hb2.hi U7
   obtain ⟨c2,_,_⟩:=j7 (s:=U7) hE hb2.hi
   have h10:=hx _ c2
   have hb3:=hf _ c2
   generalize ex (j0 ts U7 e2.2)=e3 at *
   have i1:=hb.sz
   have i2:=hb.hi
   have i3:=hb2.sz
   have i4:=hb2.hi
   have i5:=hb3.sz
   have i6:=hb3.hi
   obtain ⟨x,hxx⟩:=A8 e1.1
   obtain ⟨y,hyy⟩:=A8 e2.1
   obtain ⟨u,huu⟩:=A8 e3.1
   obtain ⟨z,hz,ho⟩:=b1z 39 ⟨#[]⟩ (l9 ts p.1).at_ [e1.1,e2.1,e3.1] (by simp) (by simp only [c9q,c9y,c9i,c8U];omega)
   rw [show rP [e1.1,e2.1,e3.1]=[cE x,cE y,cE u] by unfold rP;rw [c9m,c9m,c9m,c9O,hxx,hyy,huu]] at ho
   rw [hxx] at h6
   rw [hyy] at h8
   rw [huu] at h10
   simp only
   rw [hz]
   exact c6D ho hL.2 (by omega) hd h1 g2 g3 g4 g5 h6 h7 h8 h9 h10
  rw [c8W s4]
  replace s4:B3 ts gIf p=false:=by simpa using s4
  rw [s4,a50 s4] at g5
  have h6:=hs p hp
  have hb:=hsf p hp
  have i1:=hb.sz
  have i2:=hb.hi
  obtain ⟨x,hxx⟩:=A8 (sm p).1
  have h7:=Y9 hl2 hb.hi a52
  unfold b7o
  by_cases s5:B3 ts a52 (sm p).2=true
  ·obtain ⟨k1,k2⟩:=n9 hE hb.hi s5
   have h9:=hs ((sm p).2.1+1,0) k1
   have hb2:=hsf ((sm p).2.1+1,0) k1
   have i3:=hb2.sz
   have i4:=hb2.hi
   obtain ⟨y,hyy⟩:=A8 (sm ((sm p).2.1+1,0)).1
   obtain ⟨z,hz,ho⟩:=b1z 40 a52 (l9 ts p.1).at_ [(sm p).1,(sm ((sm p).2.1+1,0)).1] (by simp) (by simp only [c9q,c9y,c9i,c8U];omega)
   rw [show rP [(sm p).1,(sm ((sm p).2.1+1,0)).1]=[cE x,cE y] by unfold rP;rw [c9m,c9m,c9O,hxx,hyy]] at ho
   rw [c8Y s5]
   rw [s5,a5z s5] at h7
   rw [hxx] at h6
   rw [hyy] at h9
   simp only
   rw [hz]
   exact c6E ho hd h1 g2 g3 g4 g5 h6 h7 h9
  rw [c8W s5]
  replace s5:B3 ts a52 (sm p).2=false:=by simpa using s5
  rw [s5,a50 s5] at h7
  have h8:=Y9 hl2 hb.hi a53
  by_cases s6:B3 ts a53 (sm p).2=true
  ·obtain ⟨k1,k2⟩:=n9 hE hb.hi s6
   have h9:=hs ((sm p).2.1+1,0) k1
   have hb2:=hsf ((sm p).2.1+1,0) k1
   have i3:=hb2.sz
   have i4:=hb2.hi
   obtain ⟨y,hyy⟩:=A8 (sm ((sm p).2.1+1,0)).1
   obtain ⟨z,hz,ho⟩:=b1z 40 a53 (l9 ts p.1).at_ [(sm p).1,(sm ((sm p).2.1+1,0)).1] (by simp) (by simp only [c9q,c9y,c9i,c8U];omega)
   rw [show rP [(sm p).1,(sm ((sm p).2.1+1,0)).1]=[cE x,cE y] by unfold rP;rw [c9m,c9m,c9O,hxx,hyy]] at ho
   rw [c8Y s6]
   rw [s6,a5z s6] at h8
   rw [hxx] at h6
   rw [hyy] at h9
   simp only
   rw [hz]
   exact c6F ho hd h1 g2 g3 g4 g5 h6 h7 h8 h9
  rw [c8W s6]
  replace s6:B3 ts a53 (sm p).2=false:=by simpa using s6
  rw [s6,a50 s6] at h8
  rw [hxx] at h6 ⊢
  exact c5f hd h1 g2 g3 g4 g5 h6 h7 h8
 ·rw [c8Y h0]
  rw [c9f h0] at hd
  simp only
  rw [b0h]
  exact b54 hd
theorem c53 {ts:List Tok} (hE:m8 ts) (n:Nat) {ex sm:PF} (hf:B6 ts ex) (he:∀p:PE,p.2≠0→ex p=(zPL,p)) (hs:B6 ts sm):B6 ts (a0e ts n ex sm):=fun p hp=>by
 have z0:(zPL:PL).2.length=0:=rfl
 have next:∀(q:PE) (r:PL×PE),p.1+1≤q.1→p.2=0→FitP ts q r→FitP ts p r:=fun q r h1 h2 h=>⟨by have:=h.lo;omega,h.hi,by have:=h.sz;omega,fun h0=>⟨h2,by have:=(h.ok h0).2;omega⟩⟩
 unfold a0e
 by_cases h0:p.2=0
 ·rw [c8W (fun h=>h h0)]
  split
  ·rename_i h
   exact next (p.1+1,0) _ (c9c _) h0 (b0q hE n hf he _ _ (n9 hE hp h).1)
  split
  ·rename_i h
   exact next (p.1+1,0) _ (c9c _) h0 (b0q hE n hf he _ _ (n9 hE hp h).1)
  split
  ·rename_i h
   obtain ⟨k1,_⟩:=n9 hE hp h
   obtain ⟨b1,b2,b3⟩:=w9 hE (p:=(p.1+1,0)) k1
   simp only at b2 b3
   generalize i7 ts (p.1+1,0)=w at *
   unfold c08
   obtain ⟨c1,c2,c3⟩:=j7 (s:=E5) hE b1
   have hb:=hf _ c1
   have e1:=he (j0 ts E5 w.2)
   generalize j0 ts E5 w.2=q at *
   obtain ⟨d1,d2,d3⟩:=j7 (s:=gIn) hE hb.hi
   have l1:=hb.lo
   have l2:=hb.sz
   have l4:=hb.ok
   have hb2:=hf _ d1
   have e2:=he (j0 ts gIn (ex q).2)
   generalize j0 ts gIn (ex q).2=r at *
   have m1:=hb2.lo
   have m2:=hb2.sz
   have m4:=hb2.ok
   have el:(y7 38 w.1 ⟨#[]⟩ (l9 ts p.1).at_ [(ex q).1,(ex r).1]).2.length=(ex q).1.2.length+(ex r).1.2.length+1:=by simp [y7,C0]
   refine ⟨by simp only;omega,hb2.hi,?_,fun h=>⟨h0,?_⟩⟩
   ·simp only
    rw [el]
    by_cases hr:r.2=0
    ·have:=(l4 (d3 hr).1).2
     omega
    ·have e2:=e2 hr
     rw [e2] at m1 ⊢
     simp only at m1 ⊢
     omega
   ·have:=m4 h
    have:=(l4 (d3 this.1).1).2
    simp only
    rw [el]
    omega
  split
  ·rename_i h
   obtain ⟨k1,_⟩:=n9 hE hp h
   have ha:=hf (p.1+1,0) k1
   generalize ex (p.1+1,0)=a at *
   have j1:=ha.lo
   have j2:=ha.sz
   have j4:=ha.ok
   simp only at j1 j2 j4
   unfold ifW
   obtain ⟨c1,c2,c3⟩:=j7 (s:=a3w) hE ha.hi
   have hb:=hf _ c1
   have e1:=he (j0 ts a3w a.2)
   generalize j0 ts a3w a.2=q at *
   obtain ⟨d1,d2,d3⟩:=j7 (s:=U7) hE hb.hi
   have l1:=hb.lo
   have l2:=hb.sz
   have l4:=hb.ok
   have hb2:=hf _ d1
   have e2:=he (j0 ts U7 (ex q).2)
   generalize j0 ts U7 (ex q).2=r at *
   have m1:=hb2.lo
   have m2:=hb2.sz
   have m4:=hb2.ok
   have el:(y7 39 ⟨#[]⟩ ⟨#[]⟩ (l9 ts p.1).at_ [a.1,(ex q).1,(ex r).1]).2.length=a.1.2.length+((ex q).1.2.length+(ex r).1.2.length)+1:=by simp [y7,C0]
   refine ⟨by simp only;omega,hb2.hi,?_,fun h=>⟨h0,?_⟩⟩
   ·simp only
    rw [el]
    by_cases hq:q.2=0
    ·have:=(j4 (c3 hq).1).2
     by_cases hr:r.2=0
     ·have:=(l4 (d3 hr).1).2
      omega
     ·have e2:=e2 hr
      rw [e2] at m1 ⊢
      simp only at m1 ⊢
      omega
    ·have e1:=e1 hq
     have hr:r.2≠0:=fun h5=>by
      have h6:=(d3 h5).1
      rw [e1] at h6
      exact hq h6
     have e2:=e2 hr
     rw [e2] at m1 ⊢
     rw [e1] at l1 d2 ⊢
     simp only at l1 d2 m1 ⊢
     omega
   ·have h5:=m4 h
    have h6:=l4 (d3 h5.1).1
    have:=(j4 (c3 h6.1).1).2
    simp only
    rw [el]
    omega
  ·have ha:=hs p hp
   have j1:=ha.lo
   have j2:=ha.sz
   have j4:=ha.ok
   have two:∀(s g:ByteArray),B3 ts s (sm p).2=true→FitP ts p (y7 40 g ⟨#[]⟩ (l9 ts p.1).at_ [(sm p).1,(sm ((sm p).2.1+1,0)).1],(sm ((sm p).2.1+1,0)).2):=fun s g h=>by
    obtain ⟨k1,k2⟩:=n9 hE ha.hi h
    have hb:=hs ((sm p).2.1+1,0) k1
    have l1:=hb.lo
    have l2:=hb.sz
    have l4:=hb.ok
    simp only at l1 l2 l4
    have:=(j4 k2).2
    have el:(y7 40 g ⟨#[]⟩ (l9 ts p.1).at_ [(sm p).1,(sm ((sm p).2.1+1,0)).1]).2.length=(sm p).1.2.length+(sm ((sm p).2.1+1,0)).1.2.length+1:=by simp [y7,C0]
    exact ⟨by simp only;omega,hb.hi,by simp only;omega,fun h=>⟨h0,by have:=(l4 h).2;simp only;omega⟩⟩
   unfold b7o
   split
   ·rename_i h;exact two _ _ h
   split
   ·rename_i h;exact two _ _ h
   ·exact ha
 ·rw [c8Y h0]
  exact ⟨c9c _,hp,by show 0+2 * p.1≤2 * p.1+2;omega,fun h=>absurd h h0⟩
section
section
variable {ts:List Tok} (hE:m8 ts) {ex:PF} (hf:B6 ts ex) (he:∀p:PE,p.2≠0→ex p=(zPL,p)) {a:Nat} (hp:a+1<ts.length)
include hE hf hp
theorem b7p (n:Nat) (pl:Int):a+1≤(a0N ts n ex pl (a+1,0)).2.1:=by
 have hb:=hf (a+1,0) hp
 have l1:=hb.lo
 simp only at l1
 unfold a0N
 split
 ·rename_i h
  obtain ⟨k1,k2⟩:=n9 hE hb.hi h
  obtain ⟨d1,d2,d3⟩:=a3v hE (n - 1) (p:=((ex (a+1,0)).2.1+1,0)) k1
  obtain ⟨c1,c2,c3⟩:=j7 (s:=a2D) hE d1
  simp only at d2 ⊢
  omega
 ·obtain ⟨c1,c2,c3⟩:=j7 (s:=a2D) hE hb.hi
  simp only
  omega
include he
theorem b4m (pl:Int):a+1≤(Q8 ts ex pl (a+1,0)).2.1:=by
 unfold Q8
 split
 ·show a+1≤a+1+1
  omega
 ·obtain ⟨b1,b2,b3⟩:=w9 hE (p:=(a+1,0)) hp
  simp only at b2 b3
  split
  ·rename_i h
   obtain ⟨k1,k2⟩:=n9 hE b1 h
   have hb:=hf ((i7 ts (a+1,0)).2.1+1,0) k1
   obtain ⟨c1,c2,c3⟩:=j7 (s:=N1) hE hb.hi
   have hb2:=hf _ c1
   obtain ⟨d1,d2,d3⟩:=j7 (s:=Z1) hE hb2.hi
   have l1:=hb.lo
   have l2:=hb2.lo
   simp only at l1 ⊢
   omega
  ·have h1:=(b3a hE hf he pl (i7 ts (a+1,0)).1 b1).lo
   omega
theorem b4n (pl:Int):a+1≤(Q7 ts ex pl (a+1,0)).2.1:=by
 obtain ⟨a1,a2⟩:=b4l hE hf (p:=(a+1,0)) hp
 have hB:=(b1v hE hf he (a+1) ts.length true _ a1).1
 unfold Q7
 generalize chL ts ex ts.length true ([(ex (a+1,0)).1],j0 ts a28 (ex (a+1,0)).2)=s at *
 obtain ⟨c1,c2,c3⟩:=j7 (s:=Z3) hE hB.hi
 have l1:=hB.lo
 simp only
 omega
end
theorem c09 {ts:List Tok} (hE:m8 ts) (n:Nat) {ex:PF} (hf:B6 ts ex) (he:∀p:PE,p.2≠0→ex p=(zPL,p)) {p:PE} (hp:p.1<ts.length) (h0:p.2=0) (hst:K6 (l9 ts p.1)=true) (n1:B3 ts gAt p=false) (n2:B3 ts a8T p=false):p.1<(K3 ts n ex p).2.1:=by
 unfold K3
 rw [c8W (fun h=>h h0)]
 split
 ·show p.1<p.1+1;omega
 rename_i k1
 split
 ·show p.1<p.1+1;omega
 rename_i k2
 split
 ·show p.1<p.1+1;omega
 rename_i s1
 split
 ·show p.1<p.1+1;omega
 rename_i s2
 split
 ·rename_i h;exact b7p hE hf (n9 hE hp h).1 n _
 rename_i s3
 split
 ·rename_i h;exact b4m hE hf he (n9 hE hp h).1 _
 rename_i s4
 split
 ·rename_i h;exact b4n hE hf he (n9 hE hp h).1 _
 rename_i s5
 exfalso
 have e:∀s,B3 ts s p=Z7 (l9 ts p.1) s:=fun s=>by unfold B3;rw [h0];rfl
 rw [e] at n1 n2 s1 s2 s3 s4 s5
 unfold Z7 at n1 n2 s1 s2 s3 s4 s5
 unfold K6 at hst
 simp only [a3H,List.any_cons,List.any_nil,Bool.or_false,c96,c8Z,d0c] at hst
 simp only [c8Z,d0c,Bool.and_eq_false_iff,c94] at n1 n2 s1 s2 s3 s4 s5
 rcases hst with h|h|⟨hk,h⟩
 ·exact k1 h
 ·exact k2 h
 ·rcases h with h|h|h|h|h|h|h
  ·exact n1.elim (fun g=>g hk) fun g=>g h
  ·exact n2.elim (fun g=>g hk) fun g=>g h
  ·exact s1 ⟨hk,h⟩
  ·exact s2 ⟨hk,h⟩
  ·exact s3 ⟨hk,h⟩
  ·exact s4 ⟨hk,h⟩
  ·exact s5 ⟨hk,h⟩
theorem b3d {ts:List Tok} (hE:m8 ts) {a:Int}:∀(k:Nat) (s:PL×PE),s.2.1<ts.length→s.2.1≤(M4 ts a k s).2.1
 | 0,s,_=>c9c _
 | k+1,s,hs=>by
  rw [M4]
  cases hg:r7 ts a1w s.2 with
  | none=>exact c9c _
  | some g =>
   obtain ⟨_,h2,_⟩:=P6 hE hs hg
   obtain ⟨b1,b2,b3⟩:=w9 hE (p:=(s.2.1+1,0)) h2
   simp only at b2
   have:=b3d (a:=a) hE k (y7 (a5v g) (i7 ts (s.2.1+1,0)).1 N5 a [s.1],(i7 ts (s.2.1+1,0)).2) b1
   simp only at this ⊢
   omega
theorem c2O {ts:List Tok} (hE:m8 ts) (m n:Nat) {ex pr:PF} (hf:B6 ts ex) (he:∀p:PE,p.2≠0→ex p=(zPL,p)) (hr:B6 ts pr):StF ts (a51 ts m (a4e (K3 ts n ex) ts) pr):=fun p hp h0 hst=>by
 have key:∀(s:ByteArray) (op:Int),B3 ts s p=true→p.1<(a6K ts m op pr p).2.1:=fun s op h=>by
  obtain ⟨k1,k2⟩:=n9 hE hp h
  obtain ⟨b1,b2,b3⟩:=w9 hE (p:=(p.1+1,0)) k1
  simp only at b2
  have hb:=(hr _ b1).lo
  unfold a6K
  split
  ·have:(M3 m (i7 ts (p.1+1,0)).2).1=(i7 ts (p.1+1,0)).2.1:=by
    unfold M3
    split
    ·exact (C8 6 (by decide) _).1
    ·rfl
   simp only
   omega
  ·simp only
   omega
 unfold a51
 split
 ·rename_i h;exact key _ _ h
 rename_i h1
 split
 ·rename_i h;exact key _ _ h
 rename_i h2
 unfold a4e
 have h3:=c09 hE n hf he hp h0 hst (by simpa using h1) (by simpa using h2)
 have h4:=b3d hE (a:=(l9 ts p.1).at_) ts.length (K3 ts n ex p) (b1y hE n hf he hp).hi
 omega
end
abbrev a8U (ts:List Tok) (n:Nat) (ex pr:PF):PF:=a51 ts n (a4e (K3 ts (n+1) ex) ts) pr
abbrev c0A (ts:List Tok) (P:PF):PF:=b9X (a6A (a8F P ts) ts) ts
def G2 (ts:List Tok):Nat→PF×PF
 | 0=>(fun p=>(zPL,C5 6 p),fun p=>(zPL,C5 6 p))
 | n+1=>(a0e ts (n+1) (G2 ts n).1 (c0A ts (a8U ts n (G2 ts n).1 (G2 ts n).2)),a8U ts n (G2 ts n).1 (G2 ts n).2)
theorem a3x {ts:List Tok} (hE:m8 ts) {P:PF} (h:B6 ts P):B6 ts (a6A (a8F P ts) ts)∧B6 ts (c0A ts P) :=
 ⟨c5j (sg:=a1M) (a:=fun p=>(l9 ts p.1).at_) hE (c0a h),c5j (sg:=a5u) (a:=fun p=>(l9 ts p.1).at_) hE (c5j (sg:=a1M) (a:=fun p=>(l9 ts p.1).at_) hE (c0a h))⟩
theorem a48 {ts:List Tok} (hE:m8 ts):∀n,B6 ts (G2 ts n).1∧(∀p:PE,p.2≠0→(G2 ts n).1 p=(zPL,p))∧B6 ts (G2 ts n).2
 | 0=>by
  have h:B6 ts fun p=>(zPL,C5 6 p):=fun p hp=>by
   obtain ⟨f1,f2⟩:=C8 6 (by decide) p
   exact ⟨by show p.1≤(C5 6 p).1;omega,by show (C5 6 p).1<_;omega,by show 0+2 * p.1≤2 * (C5 6 p).1+2;omega,fun h=>absurd h f2⟩
  exact ⟨h,fun p hp=>by show (zPL,C5 6 p)=_;unfold C5;rw [c8Y hp],h⟩
 | n+1=>by
  obtain ⟨h1,h2,h3⟩:=a48 hE n
  have hP:B6 ts (a8U ts n (G2 ts n).1 (G2 ts n).2):=c7v hE n (c6L hE fun p hp=>b1y hE (n+1) h1 h2 hp) h3
  exact ⟨c53 hE (n+1) h1 h2 (a3x hE hP).2,fun p hp=>b0t _ _ _ _ p hp,hP⟩
theorem c7y {ts:List Tok} (hE:m8 ts) (hN:T5 ts) (hl:ts.length≤65537):∀(n:Nat) (L:Int),a1y n L→(∀p:PE,p.1<ts.length→G9 37 [vi .i64 L] ts p [.ag (y5 (cP ((G2 ts n).1 p).1))] ((G2 ts n).1 p).2)∧(n≠0→∀p:PE,p.1<ts.length→G9 117 [vi .i64 L] ts p [.ag (y5 (cP ((G2 ts n).2 p).1))] ((G2 ts n).2 p).2)
 | 0,L,hv=>⟨fun p hp=>by
   have hL:200<L:=by unfold a1y at hv;omega
   have hd:=b1a (by omega:ts.length≤1048576) hp (n:=0) (L:=L) (.inl ⟨rfl,hL⟩)
   obtain ⟨f1,f2⟩:=C8 6 (by decide) p
   rw [show M3 0 p=C5 6 p from rfl,c9f f2] at hd
   show G9 _ _ ts p [.ag (y5 (cP zPL))] (C5 6 p)
   rw [b0h]
   exact b54 hd,fun h=>absurd rfl h⟩
 | n+1,L,hv=>by
  have hb:0≤L∧L≤200∧(n=0∧200<L+1∨n≠0∧L+1≤200):=by unfold a1y at hv;omega
  have hv2:a1y n (L+1):=b1t hv
  obtain ⟨i1,i2⟩:=c7y hE hN hl n (L+1) hv2
  obtain ⟨h1,h2,h3⟩:=a48 hE n
  have hat:B6 ts (K3 ts (n+1) (G2 ts n).1):=fun p hp=>b1y hE (n+1) h1 h2 hp
  have hP:B6 ts (a8U ts n (G2 ts n).1 (G2 ts n).2):=(a48 hE (n+1)).2.2
  have hpre:∀p:PE,p.1<ts.length→G9 117 [vi .i64 L] ts p [.ag (y5 (cP (a8U ts n (G2 ts n).1 (G2 ts n).2 p).1))] (a8U ts n (G2 ts n).1 (G2 ts n).2 p).2:=fun p hp =>
   c7w hE hl hb.1 (by omega) hb.2.2 h3 (fun q hq=>c5k hE hl hat (fun r hr=>c51 hE hN hl (n+1) L hv (by omega) h1 h2 i1 hr) q hq) (fun hm q hq _=>i2 hm q hq) hp
  have happ:=fun p hp=>c6I hl hP (c2O hE n (n+1) h1 h2 h3) hpre p hp
  have hprod:=fun p hp=>c5i hE hl (c0a hP) happ p hp
  have hsum:=fun p hp=>c6H hE hl (a3x hE hP).1 hprod p hp
  exact ⟨fun p hp=>c52 hE hN hl (n+1) L hv (by omega) h1 (a3x hE hP).2 i1 hsum hp,fun _=>hpre⟩
def U9 (t:Tok) (k:Int) (w:List UInt8):Prop:=t.kind=k∧t.text.data.toList=w
theorem U9.g {t:Tok} {k:Int} {w:List UInt8} (h:U9 t k w) (s:ByteArray):Z7 t s=((k == 3) && (w == s.data.toList)):=by
 unfold Z7
 rw [h.1,ByteArray.toList_eq,ByteArray.toList_eq,h.2]
theorem U9.starts {t:Tok} {k:Int} {w:List UInt8} (h:U9 t k w):K6 t=(k == 1 || (k == 2 || (k == 3 && a3H.any fun s=>w == s.data.toList))):=by
 unfold K6
 rw [h.1]
 congr 2
 congr 1
 unfold a3H
 simp only [List.any_cons,List.any_nil,ByteArray.toList_eq,h.2]
def a54:List ByteArray:=a1w++(a1M++(a5u++[a52,a53]))
def a0F (t:Tok):Bool:=!(K6 t) && a54.all fun s=>!(Z7 t s)
theorem a29 {t:Tok} {k:Int} {w:List UInt8} (h:U9 t k w) (h1:(k == 1 || (k == 2 || (k == 3 && a3H.any fun s=>w == s.data.toList)))=false) (h2:(a54.all fun s=>!((k == 3) && (w == s.data.toList)))=true):a0F t=true:=by
 unfold a0F
 rw [h.starts,h1,show (fun s=>!(Z7 t s))=fun s=>!((k == 3) && (w == s.data.toList)) from funext fun s=>by rw [h.g],h2]
 rfl
theorem a8V {ts:List Tok} {p:PE}:∀ {l:List ByteArray},(p.2≠0∨∀s∈l,Z7 (l9 ts p.1) s=false)→r7 ts l p=none
 | [],_=>rfl
 | s::l,h=>by
  rw [r7]
  have e:B3 ts s p=false:=by
   unfold B3
   rcases h with h|h
   ·rw [c9f h];rfl
   ·rw [h s (c8V ..),d0Z]
  rw [c8W (by rw [e];decide)]
  exact a8V (h.imp id fun h x hx=>h x (c8X _ hx))
def Z4 (ts:List Tok) (p:PE):Prop:=p.2≠0∨a0F (l9 ts p.1)=true
theorem Z4.g {ts:List Tok} {p:PE} (h:Z4 ts p) (s:ByteArray) (hs:s∈a54):p.2≠0∨Z7 (l9 ts p.1) s=false:=by
 refine h.imp id fun h=>?_
 unfold a0F at h
 rw [c8Z,c9s] at h
 simpa using h.2 s hs
theorem Z4.all {ts:List Tok} {p:PE} (h:Z4 ts p) {l:List ByteArray} (hl:∀s∈l,s∈a54):p.2≠0∨∀s∈l,Z7 (l9 ts p.1) s=false:=by
 by_cases h0:p.2=0
 ·exact .inr fun s hs=>(h.g s (hl s hs)).resolve_left fun h=>h h0
 ·exact .inl h0
theorem Z4.starts {ts:List Tok} {p:PE} (h:Z4 ts p):¬(p.2=0∧K6 (l9 ts p.1)=true):=fun ⟨h0,h1⟩=>by
 rcases h with h|h
 ·exact h h0
 ·unfold a0F at h
  rw [h1] at h
  cases h
theorem c2P {pr:PF} {ts:List Tok} {a:Int} {s:PL×PE} (h:Z4 ts s.2):∀k,a14 pr ts a k s=s
 | 0=>rfl
 | k+1=>by rw [a14,c8W h.starts]
theorem b5O {sg:List ByteArray} {nx:PF} {ts:List Tok} {a:Int} {s:PL×PE} (h:Z4 ts s.2) (hl:∀x∈sg,x∈a54):∀k,a0M sg nx ts a k s=s
 | 0=>rfl
 | k+1=>by rw [a0M,a8V (h.all hl)]
theorem c0B {ts:List Tok} {a:Int} {s:PL×PE} (h:Z4 ts s.2):∀k,M4 ts a k s=s
 | 0=>rfl
 | k+1=>by rw [M4,a8V (h.all fun x hx=>by unfold a54;exact d0t _ hx)]
theorem c2Q {ts:List Tok} {P:PF} {p:PE} (h:Z4 ts (P p).2):c0A ts P p=P p:=by
 have e1:a8F P ts p=P p:=c2P h _
 have e2:a6A (a8F P ts) ts p=P p:=by
  unfold a6A
  rw [e1]
  exact b5O h (fun x hx=>by unfold a54;exact c9X _ (d0t _ hx)) _
 unfold c0A b9X
 rw [e2]
 exact b5O h (fun x hx=>by unfold a54;exact c9X _ (c9X _ (d0t _ hx))) _
theorem c54 {ts:List Tok} {sm:PF} {a:Int} {s:PL×PE} (h:Z4 ts s.2):b7o ts sm a s=s:=by
 have e:∀g∈[a52,a53],B3 ts g s.2=false:=fun g hg=>by
  unfold B3
  rcases h.g g (by unfold a54;exact c9X _ (c9X _ (c9X _ hg))) with h|h
  ·rw [c9f h];rfl
  ·rw [h,d0Z]
 unfold b7o
 rw [c8W (by rw [e a52 (c8V ..)];decide),c8W (by rw [e a53 (c8X _ (c8V ..))];decide)]
theorem E1 {ts:List Tok} {s:ByteArray} {i:Nat}:B3 ts s (i,0)=Z7 (l9 ts i) s:=by unfold B3;rfl
theorem b5P {ts:List Tok} {n i:Nat} (hk:∀s∈[a6C,a6D,b3c,gIf],Z7 (l9 ts i) s=false) (hs:Z4 ts ((G2 ts (n+1)).2 (i,0)).2):(G2 ts (n+1)).1 (i,0)=(G2 ts (n+1)).2 (i,0):=by
 rw [G2] at hs ⊢
 simp only at hs ⊢
 unfold a0e
 rw [c8W (fun h=>h rfl),c8W (by rw [E1,hk a6C (by simp)];decide),c8W (by rw [E1,hk a6D (by simp)];decide),c8W (by rw [E1,hk b3c (by simp)];decide),c8W (by rw [E1,hk gIf (by simp)];decide)]
 rw [c2Q hs,c54 hs]
theorem b4o {ts:List Tok} {n i:Nat} (hk:∀s∈[gAt,a8T],Z7 (l9 ts i) s=false) (hs:Z4 ts (K3 ts (n+1) (G2 ts n).1 (i,0)).2):(G2 ts (n+1)).2 (i,0)=K3 ts (n+1) (G2 ts n).1 (i,0):=by
 rw [G2]
 show a51 ts n (a4e (K3 ts (n+1) (G2 ts n).1) ts) (G2 ts n).2 (i,0)=_
 unfold a51
 rw [c8W (by rw [E1,hk gAt (by simp)];decide),c8W (by rw [E1,hk a8T (by simp)];decide)]
 unfold a4e
 exact c0B hs _
theorem U9.no {t:Tok} {k:Int} {w:List UInt8} (h:U9 t k w) {l:List ByteArray} (hl:(l.all fun s=>!((k == 3) && (w == s.data.toList)))=true):∀s∈l,Z7 t s=false:=fun s hs=>by
 rw [h.g]
 have:=c9s.1 hl s hs
 revert this
 cases ((k == 3) && (w == s.data.toList)) <;> intro h <;> first|rfl|cases h
theorem a2A {ts:List Tok} {n i:Nat} (h:U9 (l9 ts i) 2 []) (hs:a0F (l9 ts (i+1))=true):((G2 ts (n+1)).1 (i,0)).2=(i+1,0)∧((G2 ts (n+1)).2 (i,0)).2=(i+1,0):=by
 have e:(K3 ts (n+1) (G2 ts n).1 (i,0)).2=(i+1,0):=by
  unfold K3
  rw [c8W (fun h=>h rfl),c8W (by show ¬(l9 ts i).kind=1;rw [h.1];decide),c8Y (show (l9 ts i).kind=2 from h.1)]
 have h1:=b4o (n:=n) (h.no (by rfl)) (by rw [e];exact .inr hs)
 have h2:=b5P (n:=n) (h.no (by rfl)) (by rw [h1,e];exact .inr hs)
 rw [h2,h1,e]
 exact ⟨rfl,rfl⟩
theorem c2R {ts:List Tok} {n i:Nat} (h:U9 (l9 ts i) 3 [116,114,117,101]) (hs:a0F (l9 ts (i+1))=true):((G2 ts (n+1)).1 (i,0)).2=(i+1,0):=by
 have e:(K3 ts (n+1) (G2 ts n).1 (i,0)).2=(i+1,0):=by
  unfold K3
  rw [c8W (fun h=>h rfl),c8W (by show ¬(l9 ts i).kind=1;rw [h.1];decide),c8W (by show ¬(l9 ts i).kind=2;rw [h.1];decide),c8Y (by rw [E1,h.g];rfl)]
 have h1:=b4o (n:=n) (h.no (by rfl)) (by rw [e];exact .inr hs)
 have h2:=b5P (n:=n) (h.no (by rfl)) (by rw [h1,e];exact .inr hs)
 rw [h2,h1,e]
theorem a1N {ts:List Tok} {s:ByteArray} {i:Nat} (h:Z7 (l9 ts i) s=true):j0 ts s (i,0)=(i+1,0):=by unfold j0;rw [c8W (fun h=>h rfl),c8Y h]
theorem a49 {ts:List Tok} {s:ByteArray} {p:PE} (h:p.2≠0):j0 ts s p=p:=by unfold j0;rw [c8Y h]
def P8 (c s e m j:Nat):PE:=if m<200 then (c * m+1+s * (m - j),0) else (e,6)
theorem T6 {c s e m j:Nat} (h:m<200):P8 c s e m j=(c * m+1+s * (m - j),0):=c8Y h
theorem P0 {c s e m j:Nat} (h:¬m<200):P8 c s e m j=(e,6):=c8W h
abbrev lE (ts:List Tok) (n i:Nat):PE:=((G2 ts n).1 (i,0)).2
theorem b7q {ts:List Tok} {i:Nat}:lE ts 0 i=(i,6):=rfl
theorem c55 {ts:List Tok} (n:Nat) {p:PE} (h:p.2≠0):((G2 ts n).1 p).2=p:=by
 cases n with
 | zero =>
  show C5 6 p=p
  unfold C5
  rw [c8Y h]
 | succ n =>
  rw [G2]
  show (a0e _ _ _ _ p).2=p
  rw [b0t _ _ _ _ _ h]
theorem c56 {ts:List Tok} {s:ByteArray} {p:PE} (h:p.2≠0):B3 ts s p=false:=by unfold B3;rw [c9f h];rfl
theorem c2S {t:Tok} (h:U9 t 3 [41]):a0F t=true:=a29 h rfl rfl
theorem c2T {t:Tok} (h:U9 t 3 [125]):a0F t=true:=a29 h rfl rfl
theorem a0G {t:Tok} (h:U9 t 4 []):a0F t=true:=a29 h rfl rfl
theorem c0C {t:Tok} (h:U9 t 3 [111,102]):a0F t=true:=a29 h rfl rfl
theorem b7r {t:Tok} (h:U9 t 3 [116,104,101,110]):a0F t=true:=a29 h rfl rfl
theorem b7s {t:Tok} (h:U9 t 3 [101,108,115,101]):a0F t=true:=a29 h rfl rfl
theorem c2U {t:Tok} (h:U9 t 3 [105,110]):a0F t=true:=a29 h rfl rfl
theorem b10 {ts:List Tok} {n i:Nat} {w:List UInt8} {q:PE} (h:U9 (l9 ts i) 3 w) (h1:([a6C,a6D,b3c,gIf].all fun s=>!(((3:Int) == 3) && (w == s.data.toList)))=true) (h2:([gAt,a8T].all fun s=>!(((3:Int) == 3) && (w == s.data.toList)))=true)
  (e:(K3 ts (n+1) (G2 ts n).1 (i,0)).2=q) (hs:Z4 ts q):lE ts (n+1) i=q:=by
 have h3:=b4o (n:=n) (h.no h2) (by rw [e];exact hs)
 have h4:=b5P (n:=n) (h.no h1) (by rw [h3,e];exact hs)
 show ((G2 ts (n+1)).1 (i,0)).2=q
 rw [h4,h3,e]
theorem c3M {ts:List Tok} {m:Nat} (ho:∀j,j<m→U9 (l9 ts j) 3 [40]) (hn:U9 (l9 ts m) 2 []) (hs:∀j,j<m→U9 (l9 ts (m+1+j)) 3 [41]) (he:U9 (l9 ts (2 * m+1)) 4 []):∀n j,j+n=200→j≤m→lE ts n j=P8 1 1 200 m j
 | 0,j,h1,h2=>by rw [b7q,P0 (by omega),show j=200 by omega]
 | n+1,j,h1,h2=>by
  have hst:∀i,i<m+1→a0F (l9 ts (m+1+i))=true:=fun i hi=>by
   by_cases h:i=m
   ·rw [h,show m+1+m=2 * m+1 by omega];exact a0G he
   ·exact c2S (hs i (by omega))
  by_cases hj:j=m
  ·subst hj
   rw [T6 (by omega)]
   have:=(a2A (n:=n) hn (hst 0 (by omega))).1
   rw [show lE ts (n+1) j=(j+1,0) from this,show 1 * j+1+1 * (j - j)=j+1 by omega]
  have ih:=c3M ho hn hs he n (j+1) (by omega) (by omega)
  have hk:=ho j (by omega)
  have hc:j0 ts a2D (lE ts n (j+1))=P8 1 1 200 m j∧B3 ts a5y (lE ts n (j+1))=false∧Z4 ts (P8 1 1 200 m j):=by
   rw [ih]
   by_cases hm:m<200
   ·have hq:=hs (m - (j+1)) (by omega)
    rw [T6 hm,T6 hm]
    rw [show 1 * m+1+1 * (m - (j+1))=m+1+(m - (j+1)) by omega,show 1 * m+1+1 * (m - j)=m+1+(m - (j+1))+1 by omega]
    exact ⟨a1N (by rw [hq.g];rfl),by rw [E1,hq.g];rfl,.inr (by have:=hst (m - j) (by omega);rw [show m+1+(m - (j+1))+1=m+1+(m - j) by omega];exact this)⟩
   ·rw [P0 hm,P0 hm]
    exact ⟨a49 (by decide),c56 (by decide),.inl (by decide)⟩
  refine b10 hk rfl rfl ?_ hc.2.2
  unfold K3
  rw [c8W (fun h=>h rfl),c8W (by show ¬(l9 ts j).kind=1;rw [hk.1];decide),c8W (by show ¬(l9 ts j).kind=2;rw [hk.1];decide),c8W (by rw [E1,hk.g];decide),c8W (by rw [E1,hk.g];decide),c8Y (by rw [E1,hk.g];rfl)]
  unfold a0N
  rw [c8W (by show ¬B3 ts a5y (lE ts n (j+1))=true;rw [hc.2.1];decide)]
  exact hc.1
theorem a7h {ts:List Tok} {i:Nat} (h:(l9 ts i).kind=1):(i7 ts (i,0)).2=(i+1,0):=by unfold i7;rw [c8Y ⟨rfl,h⟩]
theorem c3N {ts:List Tok} {m:Nat} (ho:∀j,j<m→U9 (l9 ts (3 * j)) 3 [123]) (ho1:∀j,j<m→(l9 ts (3 * j+1)).kind=1) (ho2:∀j,j<m→U9 (l9 ts (3 * j+2)) 3 [61]) (hn:U9 (l9 ts (3 * m)) 2 []) (hs:∀j,j<m→U9 (l9 ts (3 * m+1+j)) 3 [125]) (he:U9 (l9 ts (4 * m+1)) 4 []) :
  ∀n j,j+n=200→j≤m→lE ts n (3 * j)=P8 3 1 600 m j
 | 0,j,h1,h2=>by rw [b7q,P0 (by omega),show 3 * j=600 by omega]
 | n+1,j,h1,h2=>by
  have hst:∀i,i<m+1→a0F (l9 ts (3 * m+1+i))=true:=fun i hi=>by
   by_cases h:i=m
   ·rw [h,show 3 * m+1+m=4 * m+1 by omega];exact a0G he
   ·exact c2T (hs i (by omega))
  by_cases hj:j=m
  ·subst hj
   rw [T6 (by omega)]
   have:=(a2A (n:=n) hn (hst 0 (by omega))).1
   rw [show lE ts (n+1) (3 * j)=(3 * j+1,0) from this,show 3 * j+1+1 * (j - j)=3 * j+1 by omega]
  have ih:=c3N ho ho1 ho2 hn hs he n (j+1) (by omega) (by omega)
  have hk:=ho j (by omega)
  have hk1:=ho1 j (by omega)
  have hk2:=ho2 j (by omega)
  have hc:j0 ts Z1 (lE ts n (3 * (j+1)))=P8 3 1 600 m j∧B3 ts Q6 (lE ts n (3 * (j+1)))=false∧B3 ts N1 (lE ts n (3 * (j+1)))=false∧Z4 ts (P8 3 1 600 m j):=by
   rw [ih]
   by_cases hm:m<200
   ·have hq:=hs (m - (j+1)) (by omega)
    rw [T6 hm,T6 hm]
    rw [show 3 * m+1+1 * (m - (j+1))=3 * m+1+(m - (j+1)) by omega,show 3 * m+1+1 * (m - j)=3 * m+1+(m - (j+1))+1 by omega]
    exact ⟨a1N (by rw [hq.g];rfl),by rw [E1,hq.g];rfl,by rw [E1,hq.g];rfl,.inr (by have:=hst (m - j) (by omega);rw [show 3 * m+1+(m - (j+1))+1=3 * m+1+(m - j) by omega];exact this)⟩
   ·rw [P0 hm,P0 hm]
    exact ⟨a49 (by decide),c56 (by decide),c56 (by decide),.inl (by decide)⟩
  refine b10 hk rfl rfl ?_ hc.2.2.2
  unfold K3
  rw [c8W (fun h=>h rfl),c8W (by show ¬(l9 ts (3 * j)).kind=1;rw [hk.1];decide),c8W (by show ¬(l9 ts (3 * j)).kind=2;rw [hk.1];decide),c8W (by rw [E1,hk.g];decide),c8W (by rw [E1,hk.g];decide),c8W (by rw [E1,hk.g];decide),c8Y (by rw [E1,hk.g];rfl)]
  unfold Q8
  have hno:∀s,Z7 (l9 ts (3 * j+1)) s=false:=fun s=>by unfold Z7;rw [hk1];rfl
  rw [c8W (by rw [E1,hno];decide)]
  rw [a7h hk1]
  rw [c8W (by rw [E1,hk2.g];decide)]
  unfold Z2
  have hw:j0 ts E5 (3 * j+1+1,0)=(3 * (j+1),0):=a1N (by rw [hk2.g];rfl)
  have hfd:(a9r ts (G2 ts n).1 (l9 ts (3 * j)).at_ (i7 ts (3 * j+1,0)).1 (3 * j+1+1,0)).2=lE ts n (3 * (j+1)):=by
   unfold a9r
   rw [hw,a8R (by exact hc.2.1)]
  have hb:(L6 ts (G2 ts n).1 (a9r ts (G2 ts n).1 (l9 ts (3 * j)).at_ (i7 ts (3 * j+1,0)).1 (3 * j+1+1,0)).2).2=lE ts n (3 * (j+1)):=by
   rw [hfd]
   unfold L6
   rw [c8W (by rw [hc.2.2.1];decide)]
  show j0 ts Z1 (L6 ts (G2 ts n).1 (a9r ts (G2 ts n).1 (l9 ts (3 * j)).at_ (i7 ts (3 * j+1,0)).1 (3 * j+1+1,0)).2).2=_
  rw [hb]
  exact hc.1
theorem c8v {t:Tok} (h:t.kind=1) (s:ByteArray):Z7 t s=false:=by unfold Z7;rw [h];rfl
theorem c57 {ts:List Tok} {i:Nat} (h:U9 (l9 ts i) 4 []):Z4 ts (i,0):=.inr (a0G h)
theorem c3O {ts:List Tok} {m:Nat} (c:UInt8) (hcc:c=64∨c=94) (ho:∀j,j<m→U9 (l9 ts (2 * j)) 3 [c]) (ho1:∀j,j<m→(l9 ts (2 * j+1)).kind=1) (hn:U9 (l9 ts (2 * m)) 2 []) (he:U9 (l9 ts (2 * m+1)) 4 []) :
  ∀n j,j+n=200→j≤m→((G2 ts n).2 (2 * j,0)).2=P8 2 0 400 m j
 | 0,j,h1,h2=>by
  rw [P0 (by omega),show 2 * j=400 by omega]
  rfl
 | n+1,j,h1,h2=>by
  by_cases hj:j=m
  ·subst hj
   rw [T6 (by omega),(a2A (n:=n) hn (a0G he)).2]
   rw [show 2 * j+1+0 * (j - j)=2 * j+1 by omega]
  have ih:=c3O c hcc ho ho1 hn he n (j+1) (by omega) (by omega)
  have hk:=ho j (by omega)
  have hk1:=ho1 j (by omega)
  have hend:P8 2 0 400 m (j+1)=P8 2 0 400 m j:=by unfold P8;rw [d0e,d0e]
  have hY:∀op,(a6K ts n op (G2 ts n).2 (2 * j,0)).2=P8 2 0 400 m j:=fun op=>by
   unfold a6K
   have hw:=a7h (ts:=ts) hk1
   show (if n=0∨(i7 ts (2 * j+1,0)).2.2≠0 then (zPL,M3 n (i7 ts (2 * j+1,0)).2) else _).2=_
   by_cases h0:n=0
   ·rw [c8Y (.inl h0),hw,P0 (by omega),h0]
    show C5 6 (2 * j+1+1,0)=_
    rw [show 2 * j+1+1=400 by omega]
    rfl
   ·rw [c8W (by rw [hw];rintro (h|h);exact h0 h;exact h rfl)]
    show ((G2 ts n).2 (i7 ts (2 * j+1,0)).2).2=_
    rw [hw,←hend,←ih]
    rfl
  rw [G2]
  show (a51 ts n _ (G2 ts n).2 (2 * j,0)).2=_
  unfold a51
  rcases hcc with rfl|rfl
  ·rw [c8Y (by rw [E1,hk.g];rfl)]
   exact hY 46
  ·rw [c8W (by rw [E1,hk.g];decide),c8Y (by rw [E1,hk.g];rfl)]
   exact hY 47
theorem b5Q {ts:List Tok} {m:Nat} (c:UInt8) (hcc:c=64∨c=94) (ho:∀j,j<m→U9 (l9 ts (2 * j)) 3 [c]) (ho1:∀j,j<m→(l9 ts (2 * j+1)).kind=1) (hn:U9 (l9 ts (2 * m)) 2 []) (he:U9 (l9 ts (2 * m+1)) 4 []) :
  lE ts 200 0=P8 2 0 400 m 0:=by
 have h:=c3O c hcc ho ho1 hn he 200 0 rfl (c95 _)
 rw [Nat.mul_zero] at h
 have hno:∀s∈[a6C,a6D,b3c,gIf],Z7 (l9 ts 0) s=false:=by
  by_cases hm:m=0
  ·subst hm
   exact hn.no rfl
  ·have hk:=ho 0 (by omega)
   rcases hcc with rfl|rfl
   ·exact hk.no rfl
   ·exact hk.no rfl
 have hs:Z4 ts (P8 2 0 400 m 0):=by
  by_cases hm:m<200
  ·rw [T6 hm,d0e];exact c57 he
  ·rw [P0 hm];exact .inl (by decide)
 have h2:=b5P (n:=199) hno (by rw [h];exact hs)
 show ((G2 ts 200).1 (0,0)).2=_
 rw [h2,h]
theorem c3P {ts:List Tok} {m:Nat} (ho:∀j,j<m→U9 (l9 ts (3 * j)) 3 [102,117,110]) (ho1:∀j,j<m→(l9 ts (3 * j+1)).kind=1) (ho2:∀j,j<m→U9 (l9 ts (3 * j+2)) 3 [61,62]) (hn:U9 (l9 ts (3 * m)) 2 []) (he:U9 (l9 ts (3 * m+1)) 4 []) :
  ∀n j,j+n=200→j≤m→lE ts n (3 * j)=P8 3 0 600 m j
 | 0,j,h1,h2=>by rw [b7q,P0 (by omega),show 3 * j=600 by omega]
 | n+1,j,h1,h2=>by
  by_cases hj:j=m
  ·subst hj
   rw [T6 (by omega)]
   have:=(a2A (n:=n) hn (a0G he)).1
   rw [show lE ts (n+1) (3 * j)=(3 * j+1,0) from this,show 3 * j+1+0 * (j - j)=3 * j+1 by omega]
  have ih:=c3P ho ho1 ho2 hn he n (j+1) (by omega) (by omega)
  have hk:=ho j (by omega)
  have hk1:=ho1 j (by omega)
  have hk2:=ho2 j (by omega)
  have hend:P8 3 0 600 m (j+1)=P8 3 0 600 m j:=by unfold P8;rw [d0e,d0e]
  have hp:(B1 ts (n+1) (3 * j+1,0)).2=(3 * j+1+1,0):=by
   unfold B1
   rw [c8W (by rw [E1,c8v hk1];decide)]
   exact a7h hk1
  have hps:(F9 ts (n+1) (3 * j+1,0)).2=(3 * (j+1),0):=by
   unfold F9
   rw [hp,a8M (by show ¬((0:Int)=0∧Z7 (l9 ts (3 * j+1+1)) a1z=false);rw [hk2.g];decide)]
   exact a1N (by rw [hk2.g];rfl)
  show ((G2 ts (n+1)).1 (3 * j,0)).2=_
  rw [G2]
  show (a0e ts (n+1) (G2 ts n).1 _ (3 * j,0)).2=_
  unfold a0e
  rw [c8W (fun h=>h rfl),c8Y (by rw [E1,hk.g];rfl)]
  unfold H2
  show ((G2 ts n).1 (F9 ts (n+1) (3 * j+1,0)).2).2=_
  rw [hps,←hend]
  exact ih
theorem c3Q {ts:List Tok} {m:Nat} (ho:∀j,j<m→U9 (l9 ts (5 * j)) 3 [105,102]) (ho1:∀j,j<m→U9 (l9 ts (5 * j+1)) 3 [116,114,117,101]) (ho2:∀j,j<m→U9 (l9 ts (5 * j+2)) 3 [116,104,101,110]) (ho3:∀j,j<m→U9 (l9 ts (5 * j+3)) 2 []) (ho4:∀j,j<m→U9 (l9 ts (5 * j+4)) 3 [101,108,115,101])
  (hn:U9 (l9 ts (5 * m)) 2 []) (he:U9 (l9 ts (5 * m+1)) 4 []):∀n j,j+(n+1)=200→j≤m→lE ts (n+1) (5 * j)=P8 5 0 996 m j:=fun n j h1 h2=>by
 by_cases hj:j=m
 ·subst hj
  rw [T6 (by omega)]
  have:=(a2A (n:=n) hn (a0G he)).1
  rw [show lE ts (n+1) (5 * j)=(5 * j+1,0) from this,show 5 * j+1+0 * (j - j)=5 * j+1 by omega]
 have hk:=ho j (by omega)
 have hk1:=ho1 j (by omega)
 have hk2:=ho2 j (by omega)
 have hk3:=ho3 j (by omega)
 have hk4:=ho4 j (by omega)
 have hend:P8 5 0 996 m (j+1)=P8 5 0 996 m j:=by unfold P8;rw [d0e,d0e]
 show ((G2 ts (n+1)).1 (5 * j,0)).2=_
 rw [G2]
 show (a0e ts (n+1) (G2 ts n).1 _ (5 * j,0)).2=_
 unfold a0e
 rw [c8W (fun h=>h rfl),c8W (by rw [E1,hk.g];decide),c8W (by rw [E1,hk.g];decide),c8W (by rw [E1,hk.g];decide),c8Y (by rw [E1,hk.g];rfl)]
 unfold ifW
 show ((G2 ts n).1 (j0 ts U7 ((G2 ts n).1 (j0 ts a3w (lE ts n (5 * j+1)))).2)).2=_
 cases n with
 | zero =>
  rw [b7q,a49 (p:=(5 * j+1,6)) (show (6:Int)≠0 by decide),c55 0 (p:=(5 * j+1,6)) (show (6:Int)≠0 by decide),a49 (p:=(5 * j+1,6)) (show (6:Int)≠0 by decide),c55 0 (p:=(5 * j+1,6)) (show (6:Int)≠0 by decide),P0 (by omega),show 5 * j+1=996 by omega]
 | succ n =>
  rw [show lE ts (n+1) (5 * j+1)=(5 * j+2,0) from c2R hk1 (b7r hk2),a1N (by rw [hk2.g];rfl)]
  rw [show ((G2 ts (n+1)).1 (5 * j+2+1,0)).2=(5 * j+4,0) from (a2A hk3 (b7s hk4)).1,a1N (by rw [hk4.g];rfl),←hend]
  exact c3Q ho ho1 ho2 ho3 ho4 hn he n (j+1) (by omega) (by omega)
theorem c3R {ts:List Tok} {m:Nat} (ho:∀j,j<m→U9 (l9 ts (5 * j)) 3 [108,101,116]) (ho1:∀j,j<m→(l9 ts (5 * j+1)).kind=1) (ho2:∀j,j<m→U9 (l9 ts (5 * j+2)) 3 [61]) (ho3:∀j,j<m→U9 (l9 ts (5 * j+3)) 2 []) (ho4:∀j,j<m→U9 (l9 ts (5 * j+4)) 3 [105,110])
  (hn:U9 (l9 ts (5 * m)) 2 []) (he:U9 (l9 ts (5 * m+1)) 4 []):∀n j,j+(n+1)=200→j≤m→lE ts (n+1) (5 * j)=P8 5 0 998 m j:=fun n j h1 h2=>by
 by_cases hj:j=m
 ·subst hj
  rw [T6 (by omega)]
  have:=(a2A (n:=n) hn (a0G he)).1
  rw [show lE ts (n+1) (5 * j)=(5 * j+1,0) from this,show 5 * j+1+0 * (j - j)=5 * j+1 by omega]
 have hk:=ho j (by omega)
 have hk1:=ho1 j (by omega)
 have hk2:=ho2 j (by omega)
 have hk3:=ho3 j (by omega)
 have hk4:=ho4 j (by omega)
 have hend:P8 5 0 998 m (j+1)=P8 5 0 998 m j:=by unfold P8;rw [d0e,d0e]
 show ((G2 ts (n+1)).1 (5 * j,0)).2=_
 rw [G2]
 show (a0e ts (n+1) (G2 ts n).1 _ (5 * j,0)).2=_
 unfold a0e
 rw [c8W (fun h=>h rfl),c8W (by rw [E1,hk.g];decide),c8W (by rw [E1,hk.g];decide),c8Y (by rw [E1,hk.g];rfl)]
 unfold c08
 show ((G2 ts n).1 (j0 ts gIn ((G2 ts n).1 (j0 ts E5 (i7 ts (5 * j+1,0)).2)).2)).2=_
 rw [a7h hk1,a1N (by rw [hk2.g];rfl)]
 cases n with
 | zero =>
  show ((G2 ts 0).1 (j0 ts gIn (lE ts 0 (5 * j+1+1+1)))).2=_
  rw [b7q,a49 (p:=(5 * j+1+1+1,6)) (show (6:Int)≠0 by decide),c55 0 (p:=(5 * j+1+1+1,6)) (show (6:Int)≠0 by decide),P0 (by omega),show 5 * j+1+1+1=998 by omega]
 | succ n =>
  rw [show ((G2 ts (n+1)).1 (5 * j+1+1+1,0)).2=(5 * j+4,0) from (a2A hk3 (c2U hk4)).1,a1N (by rw [hk4.g];rfl),←hend]
  exact c3R ho ho1 ho2 ho3 ho4 hn he n (j+1) (by omega) (by omega)
theorem c3S {ts:List Tok} {m:Nat} (ho:∀j,j<m→U9 (l9 ts j) 3 [99,97,115,101]) (hn:U9 (l9 ts m) 2 []) (hs:∀j,j<m→U9 (l9 ts (m+1+2 * j)) 3 [111,102]) (hs1:∀j,j<m→U9 (l9 ts (m+1+2 * j+1)) 3 [101,110,100]) (he:U9 (l9 ts (3 * m+1)) 4 []):∀n j,j+n=200→j≤m→lE ts n j=P8 1 2 200 m j
 | 0,j,h1,h2=>by rw [b7q,P0 (by omega),show j=200 by omega]
 | n+1,j,h1,h2=>by
  have hst:∀i,i<m+1→a0F (l9 ts (m+1+2 * i))=true:=fun i hi=>by
   by_cases h:i=m
   ·rw [h,show m+1+2 * m=3 * m+1 by omega];exact a0G he
   ·exact c0C (hs i (by omega))
  by_cases hj:j=m
  ·subst hj
   rw [T6 (by omega)]
   have:=(a2A (n:=n) hn (hst 0 (by omega))).1
   rw [show lE ts (n+1) j=(j+1,0) from this,show 1 * j+1+2 * (j - j)=j+1 by omega]
  have ih:=c3S ho hn hs hs1 he n (j+1) (by omega) (by omega)
  have hk:=ho j (by omega)
  obtain ⟨q,hq⟩:∃q,q=j0 ts a28 (lE ts n (j+1)):=⟨_,rfl⟩
  have hc:¬(q.2=0∧Z7 (l9 ts q.1) Z3=false)∧j0 ts Z3 q=P8 1 2 200 m j∧Z4 ts (P8 1 2 200 m j):=by
   rw [ih] at hq
   by_cases hm:m<200
   ·have hq0:=hs (m - (j+1)) (by omega)
    have hq1:=hs1 (m - (j+1)) (by omega)
    rw [T6 hm,show 1 * m+1+2 * (m - (j+1))=m+1+2 * (m - (j+1)) by omega,a1N (by rw [hq0.g];rfl)] at hq
    rw [T6 hm,hq,show 1 * m+1+2 * (m - j)=m+1+2 * (m - (j+1))+1+1 by omega]
    refine ⟨fun h=>?_,a1N (by rw [hq1.g];rfl),.inr (by have:=hst (m - j) (by omega);rw [show m+1+2 * (m - (j+1))+1+1=m+1+2 * (m - j) by omega];exact this)⟩
    have h2:Z7 (l9 ts (m+1+2 * (m - (j+1))+1)) Z3=false:=h.2
    rw [hq1.g] at h2
    cases h2
   ·rw [P0 hm,a49 (by decide)] at hq
    rw [P0 hm,hq]
    exact ⟨fun h=>absurd h.1 (by decide),a49 (by decide),.inl (by decide)⟩
  refine b10 hk rfl rfl ?_ hc.2.2
  unfold K3
  rw [c8W (fun h=>h rfl),c8W (by show ¬(l9 ts j).kind=1;rw [hk.1];decide),c8W (by show ¬(l9 ts j).kind=2;rw [hk.1];decide),c8W (by rw [E1,hk.g];decide),c8W (by rw [E1,hk.g];decide),c8W (by rw [E1,hk.g];decide),c8W (by rw [E1,hk.g];decide),c8Y (by rw [E1,hk.g];rfl)]
  unfold Q7
  have hch:(chL ts (G2 ts n).1 ts.length true ([((G2 ts n).1 (j+1,0)).1],j0 ts a28 ((G2 ts n).1 (j+1,0)).2)).2=q:=by
   rw [show j0 ts a28 ((G2 ts n).1 (j+1,0)).2=q from hq.symm,c02 hc.1]
  show j0 ts Z3 (chL ts (G2 ts n).1 ts.length true ([((G2 ts n).1 (j+1,0)).1],j0 ts a28 ((G2 ts n).1 (j+1,0)).2)).2=_
  rw [hch]
  exact hc.2.1
section
def shT (d:Nat) (t:Tok):Tok:=⟨t.kind,t.text,t.n,t.at_+(d:Int)⟩
theorem b11 (a b:Nat) (t:Tok):shT a (shT b t)=shT (b+a) t:=by unfold shT;simp only [Tok.mk.injEq,true_and];omega
theorem b5R (a b:Nat) (l:List Tok):(l.map (shT b)).map (shT a)=l.map (shT (b+a)):=by
 rw [d0W]
 exact d0i fun t _=>b11 a b t
def T7 (b:List UInt8) (o:List Tok) (r:List UInt8):Prop:=∀(pre:List UInt8) (out:List Tok),m9 (A5 (pre++(b++r))) pre.length false out=m9 (A5 (pre++(b++r))) (pre.length+b.length) false (out++o.map (shT pre.length))
theorem T7.nil (r:List UInt8):T7 [] [] r:=fun pre out=>by simp
theorem T7.app {b b':List UInt8} {o o':List Tok} {r:List UInt8} (h:T7 b o (b'++r)) (h':T7 b' o' r):T7 (b++b') (o++o'.map (shT b.length)) r:=fun pre out=>by
 have h1:=h pre out
 have h2:=h' (pre++b) (out++o.map (shT pre.length))
 rw [c90,c8U] at h2
 rw [c90,h1,h2,c8U,c9Y,b5R,c90,c9S,d1o b.length pre.length]
theorem c2V {b:List UInt8} {o:List Tok} (h:T7 b o []):m9 (A5 b) 0 false []=(o++[⟨4,⟨#[]⟩,0,(b.length:Int)⟩],0,0):=by
 have h1:=h [] []
 simp only [c9i,c9I,c9n,c9L] at h1
 have e:o.map (shT 0)=o:=by
  conv=>rhs;rw [←List.map_id o]
  exact d0i fun t _=>by unfold shT;simp
 rw [h1,a5k (by unfold A5;rw [c9r];exact c9c _),e]
 unfold A5
 rw [c9r]
theorem c0D (pre r:List UInt8) (c:UInt8):gb (A5 (pre++c::r)) pre.length=(c.toNat:Int):=c1U _ _ _ (by rw [c9b (c9c _),d0h];rfl)
theorem b5S (pre r:List UInt8):(A5 (pre++r)).drop pre.length=A5 r:=by
 unfold A5
 rw [c9Y,d0Q (by rw [c9r])]
theorem c0E (w:List UInt8):strOfNums (A5 w)=⟨w.toArray⟩:=by
 refine ByteArray.ext (d0R ?_)
 rw [strOfNums_data]
 unfold A5
 rw [d0W]
 conv=>rhs;rw [show (⟨w.toArray⟩:ByteArray).data.toList=w from rfl,←List.map_id w]
 exact d0i fun c _=>by simp
theorem c0F (pre r:List UInt8) (c:UInt8):pre.length<(A5 (pre++c::r)).length:=by unfold A5;rw [c9r,c8U,c9a];omega
theorem H7 (r:List UInt8):T7 [32] [] r:=fun pre out=>by
 have hg:=c0D pre r 32
 have hlt:=c0F pre r 32
 show m9 (A5 (pre++32::r)) pre.length false out=m9 (A5 (pre++32::r)) (pre.length+1) false (out++[])
 rw [a4y hlt (by rw [Y6 (a5l _) hlt (by rw [hg];decide)];decide) (by rw [hg];rfl),c9i]
theorem b12 (c:UInt8) (w r:List UInt8) (h1:(decide (c.toNat<128) && (!(M8 (c.toNat:Int)) && (!(F3 (c.toNat:Int)) && !((c.toNat:Int) == 35))))=true) (hs:B8 (A5 (c::(w++r)))=w.length+1):T7 (c::w) [⟨3,⟨(c::w).toArray⟩,0,0⟩] r:=fun pre out=>by
 simp only [c8Z,d0p,d0x,c94] at h1
 obtain ⟨c1,c2,c3,c4⟩:=h1
 have hg:=c0D pre (w++r) c
 have hlt:=c0F pre (w++r) c
 have hd:=b5S pre (c::(w++r))
 show m9 (A5 (pre++c::(w++r))) pre.length false out=m9 (A5 (pre++c::(w++r))) (pre.length+(c::w).length) false _
 have ht:(A5 (c::(w++r))).take (w.length+1)=A5 (c::w):=by
  unfold A5
  rw [show c::(w++r)=(c::w)++r from rfl,c9Y,d0P (by rw [c9r];rfl)]
 rw [a9S hlt (by rw [Y6 (a5l _) hlt (by rw [hg];omega)];decide) (by rw [hg];exact c2) (by rw [hg];exact c4) (by rw [hg];exact c3) (by rw [hd,hs];omega),hd,hs,ht,c0E]
 congr 2
 show [_]=[_]
 unfold shT
 simp
def NoR (r:List UInt8):Prop:=∀c,r.head?=some c→F3 (c.toNat:Int)=false
theorem b4p (c:UInt8) (w r:List UInt8) (t:Tok) (hw:(c::w).all (fun x=>F3 (x.toNat:Int))=true) (hr:NoR r) (h:∀a:Nat,a0K ⟨(c::w).toArray⟩ (a:Int)=(shT a t,0)):T7 (c::w) [t] r:=fun pre out=>by
 have hw:=c9s.1 hw
 have hg:=c0D pre (w++r) c
 have hlt:=c0F pre (w++r) c
 have hd:=b5S pre (c::(w++r))
 have hc:F3 (c.toNat:Int)=true:=hw c (c8V ..)
 obtain ⟨c1,c2,c3⟩:=a8r hc
 show m9 (A5 (pre++c::(w++r))) pre.length false out=m9 (A5 (pre++c::(w++r))) (pre.length+(c::w).length) false _
 have hrun:L5 (A5 (pre++c::(w++r))) pre.length=A5 (c::w):=by
  unfold L5
  rw [hd,show c::(w++r)=(c::w)++r from rfl]
  unfold A5
  rw [c9Y,List.takeWhile_append_of_pos (fun x hx=>by
   obtain ⟨y,hy,rfl⟩:=d0o.1 hx
   exact hw y hy)]
  have:(r.map fun c:UInt8=>(c.toNat:Int)).takeWhile F3=[]:=by
   cases r with
   | nil=>rfl
   | cons d r=>rw [c9m,List.takeWhile_cons_of_neg (by rw [hr d rfl];decide)]
  rw [this,c9i]
 rw [a8q hlt (by rw [Y6 (a5l _) hlt (by rw [hg];exact c3)];decide) (by rw [hg];exact c1) (by rw [hg];exact c2) (by rw [hg];exact hc),hrun,c0E,h]
 rw [c8Y rfl,show (A5 (c::w)).length=(c::w).length by unfold A5;rw [c9r]]
 rfl
def T8 (b:List UInt8):Nat→List UInt8
 | 0=>[]
 | m+1=>b++T8 b m
def a6L (o:List Tok) (len:Nat):Nat→List Tok
 | 0=>[]
 | m+1=>o++(a6L o len m).map (shT len)
theorem a2j (b:List UInt8):∀m,(T8 b m).length=m * b.length
 | 0=>by simp [T8]
 | m+1=>by rw [T8,c8U,a2j b m,c9M,d1o]
theorem Z5 (o:List Tok) (len:Nat):∀m,(a6L o len m).length=m * o.length
 | 0=>by simp [a6L]
 | m+1=>by rw [a6L,c8U,c9r,Z5 o len m,c9M,d1o]
theorem a8W (o:List Tok) (len:Nat):∀(m j i:Nat),j<m→i<o.length→(a6L o len m)[o.length * j+i]?=(o[i]?).map (shT (j * len))
 | m+1,0,i,h1,h2=>by
  rw [a6L,Nat.mul_zero,c9L,c9l h2,d0e]
  cases o[i]? with
  | none=>rfl
  | some t=>simp [shT]
 | m+1,j+1,i,h1,h2=>by
  rw [a6L,Nat.mul_succ,c9b (by omega),c9v,show o.length * j+o.length+i - o.length=o.length * j+i by omega,a8W o len m j i (by omega) h2]
  cases o[i]? with
  | none=>rfl
  | some t =>
   simp only [d0b]
   rw [b11,c9M]
theorem b4q {b:List UInt8} {o:List Tok} {r:List UInt8} (h:∀k,T7 b o (T8 b k++r)):∀m,T7 (T8 b m) (a6L o b.length m) r
 | 0=>T7.nil r
 | m+1=>(h m).app (b4q h m)
def a10 (b s:List UInt8) (m:Nat):List UInt8:=T8 b m++(49::T8 s m)
def b4r:Tok:=⟨2,⟨#[]⟩,1,0⟩
def a3y (o q:List Tok) (lb ls m:Nat):List Tok:=a6L o lb m++(b4r::(a6L q ls m).map (shT 1)).map (shT (m * lb))
theorem b5T (a:Nat):a0K ⟨#[49]⟩ (a:Int)=(shT a b4r,0):=by
 unfold a0K
 rw [c8Y (by rfl)]
 show ((⟨2,⟨#[]⟩,(a13 (r8 ⟨#[49]⟩)).1,(a:Int)⟩:Tok),(a13 (r8 ⟨#[49]⟩)).2)=_
 rw [show a13 (r8 ⟨#[49]⟩)=(1,0) by decide +kernel]
 unfold shT b4r
 simp
theorem c2X {b s:List UInt8} {o q:List Tok} {m:Nat} (hb:∀k,T7 b o (T8 b k++(49::T8 s m))) (hs:∀k,T7 s q (T8 s k)) (hr:NoR (T8 s m)):m9 (A5 (a10 b s m)) 0 false []=(a3y o q b.length s.length m++[⟨4,⟨#[]⟩,0,((a10 b s m).length:Int)⟩],0,0):=by
 refine c2V ?_
 have h1:=b4q hb m
 have h2:=b4q (r:=[]) (fun k=>by rw [c9i];exact hs k) m
 have h3:=b4p 49 [] (T8 s m++[]) b4r rfl (by rw [c9i];exact hr) b5T
 have h4:T7 (49::T8 s m) _ []:=T7.app h3 h2
 have h5:=T7.app (b':=49::T8 s m) (r:=[]) (by rw [c9i];exact h1) h4
 rw [a2j] at h5
 exact h5
section
variable {o q:List Tok} {lb ls m:Nat} {e:Tok}
theorem a8X:(a3y o q lb ls m).length=o.length * m+1+q.length * m:=by
 unfold a3y
 rw [c8U,c9r,c9a,c9r,Z5,Z5,d0s m,d0s m]
 omega
theorem b7t {j i:Nat} (hj:j<m) (hi:i<o.length):(a3y o q lb ls m++[e])[o.length * j+i]?=(o[i]?).map (shT (j * lb)):=by
 have h:o.length * j+i<(a6L o lb m).length:=by
  rw [Z5,d0s m]
  have:=Nat.mul_le_mul_left o.length (show j+1≤m from hj)
  rw [Nat.mul_succ] at this
  omega
 unfold a3y
 rw [c90,c9l h,a8W o lb m j i hj hi]
theorem c0G:(a3y o q lb ls m++[e])[o.length * m]?=some (shT (m * lb) b4r):=by
 unfold a3y
 rw [c90,c9b (by rw [Z5,d0s m o.length];exact c9c _),Z5,d0s m o.length,d0h]
 rfl
theorem b7u {j i:Nat} (hj:j<m) (hi:i<q.length):(a3y o q lb ls m++[e])[o.length * m+1+(q.length * j+i)]?=(q[i]?).map (shT (j * ls+1+m * lb)):=by
 have h:q.length * j+i<(a6L q ls m).length:=by
  rw [Z5,d0s m]
  have:=Nat.mul_le_mul_left q.length (show j+1≤m from hj)
  rw [Nat.mul_succ] at this
  omega
 unfold a3y
 rw [c90,c9b (by rw [Z5,d0s m o.length];omega),Z5,d0s m o.length,show o.length * m+1+(q.length * j+i) - o.length * m=q.length * j+i+1 by omega]
 rw [c9m,c9G,d0w,b5R,c9l (by rw [c9r];exact h),c9v,a8W q ls m j i hj hi]
 cases q[i]? with
 | none=>rfl
 | some t=>simp only [d0b];rw [b11,c9S]
theorem c0H:(a3y o q lb ls m++[e])[o.length * m+1+q.length * m]?=some e:=by
 rw [c9b (by rw [a8X];exact c9c _),a8X,d0h]
 rfl
end
end
theorem c2Y (s:ByteArray):a5j s=N4.any fun w=>w.data.toList == s.data.toList:=by
 unfold a5j inB
 congr 1
 funext w
 rw [ByteArray.toList_eq,ByteArray.toList_eq]
def c2Z (k:Int) (b:List UInt8):Bool :=
 !(F5 (gb (r8 ⟨b.toArray⟩) 0)) && (match N4.any fun w=>w.data.toList == b with|true=>k == 3|false=>a0T (r8 ⟨b.toArray⟩) && (decide ((r8 ⟨b.toArray⟩).length≤32) && k == 1))
theorem c3a {k:Int} {b:List UInt8} (h:c2Z k b=true) (a:Nat):a0K ⟨b.toArray⟩ (a:Int)=(shT a ⟨k,⟨b.toArray⟩,0,0⟩,0):=by
 unfold c2Z at h
 rw [c8Z,d0x] at h
 obtain ⟨h1,h2⟩:=h
 unfold a0K
 rw [c8W (by rw [h1];decide),c2Y]
 cases ho:N4.any fun w=>w.data.toList == b with
 | true =>
  rw [ho] at h2
  have hk:k=3:=by simpa using h2
  rw [c8Y rfl,hk]
  unfold shT
  simp
 | false =>
  rw [ho] at h2
  have h2:(a0T (r8 ⟨b.toArray⟩) && (decide ((r8 ⟨b.toArray⟩).length≤32) && k == 1))=true:=h2
  simp only [c8Z,d0p,d0c] at h2
  rw [c8W (by decide),c8W (by rw [h2.1];decide),c8W (by omega),h2.2.2]
  unfold shT
  simp
theorem b5U (k:Int) (c:UInt8) (w r:List UInt8) (hw:(c::w).all (fun x=>F3 (x.toNat:Int))=true) (h:c2Z k (c::w)=true) (hr:NoR r):T7 (c::w) [⟨k,⟨(c::w).toArray⟩,0,0⟩] r:=b4p c w r _ hw hr (c3a h)
theorem c3b {d:UInt8} {r:List UInt8} (h:F3 (d.toNat:Int)=false):NoR (d::r):=fun c hc=>by cases hc;exact h
theorem b7v:NoR []:=fun c hc=>by cases hc
theorem b13 {d:UInt8} {s:List UInt8} (h:F3 (d.toNat:Int)=false):∀m,NoR (T8 (d::s) m)
 | 0=>b7v
 | m+1=>c3b h
def opU:Nat→List UInt8
 | 0=>[40]
 | 1=>[123,97,61]
 | 2=>[64,97,32]
 | 3=>[102,117,110,32,120,61,62]
 | 4=>[105,102,32,116,114,117,101,32,116,104,101,110,32,49,32,101,108,115,101,32]
 | 5=>[108,101,116,32,120,61,49,32,105,110,32]
 | 6=>[99,97,115,101,32]
 | _=>[94,98,32]
def shU:Nat→List UInt8
 | 0=>[41]
 | 1=>[125]
 | 6=>[32,111,102,32,101,110,100]
 | _=>[]
def tk3 (b:List UInt8) (a:Int):Tok:=⟨3,⟨b.toArray⟩,0,a⟩
def tk1 (c:UInt8) (a:Int):Tok:=⟨1,⟨#[c]⟩,0,a⟩
def tkN (a:Int):Tok:=⟨2,⟨#[]⟩,1,a⟩
def opT:Nat→List Tok
 | 0=>[tk3 [40] 0]
 | 1=>[tk3 [123] 0,tk1 97 1,tk3 [61] 2]
 | 2=>[tk3 [64] 0,tk1 97 1]
 | 3=>[tk3 [102,117,110] 0,tk1 120 4,tk3 [61,62] 5]
 | 4=>[tk3 [105,102] 0,tk3 [116,114,117,101] 3,tk3 [116,104,101,110] 8,tkN 13,tk3 [101,108,115,101] 15]
 | 5=>[tk3 [108,101,116] 0,tk1 120 4,tk3 [61] 5,tkN 6,tk3 [105,110] 8]
 | 6=>[tk3 [99,97,115,101] 0]
 | _=>[tk3 [94] 0,tk1 98 1]
def a4B:Nat→List Tok
 | 0=>[tk3 [41] 0]
 | 1=>[tk3 [125] 0]
 | 6=>[tk3 [111,102] 1,tk3 [101,110,100] 4]
 | _=>[]
theorem sg1 (c:UInt8) (r:List UInt8) (h:(a6G.contains (c.toNat:Int) && (!((c.toNat:Int) == 61) && (!((c.toNat:Int) == 58) && !((c.toNat:Int) == 45))))=true):B8 (A5 (c::([]++r)))=1:=by
 simp only [c8Z,d0x,c94,c9W] at h
 obtain ⟨h1,h2,h3,h4⟩:=h
 have g0:gb (A5 (c::r)) 0=(c.toNat:Int):=rfl
 rw [c9I]
 unfold B8
 rw [c8W,c8Y (by rw [g0];exact h1)]
 rintro ⟨_,h⟩
 unfold b2w at h
 rw [g0] at h
 simp only [c96,c8Z,d0c] at h
 rcases h with ⟨h,_⟩|⟨h,_⟩|⟨h,_⟩|⟨h,_⟩ <;> omega
theorem c7z (d:UInt8) (r:List UInt8) (h:((d.toNat:Int) == 61 || (d.toNat:Int) == 62)=false):B8 (A5 (61::([]++d::r)))=1:=by
 rw [d1i,c94,c94] at h
 have g0:gb (A5 (61::d::r)) 0=61:=rfl
 have g1:gb (A5 (61::d::r)) 1=(d.toNat:Int):=rfl
 rw [c9I]
 unfold B8
 rw [c8W,c8Y (by rw [g0];decide)]
 rintro ⟨_,h'⟩
 unfold b2w at h'
 rw [g0,g1] at h'
 simp only [c96,c8Z,d0c] at h'
 omega
theorem c58 (r:List UInt8):B8 (A5 (61::([62]++r)))=2:=by
 unfold B8
 rw [c8Y ⟨by unfold A5;simp,rfl⟩]
theorem a6o (c:UInt8) (r:List UInt8) (h1:(decide (c.toNat<128) && (!(M8 (c.toNat:Int)) && (!(F3 (c.toNat:Int)) && !((c.toNat:Int) == 35))))=true) (h:(a6G.contains (c.toNat:Int) && (!((c.toNat:Int) == 61) && (!((c.toNat:Int) == 58) && !((c.toNat:Int) == 45))))=true):T7 [c] [tk3 [c] 0] r:=b12 c [] r h1 (sg1 c r h)
theorem c0I (d:UInt8) (r:List UInt8) (h:((d.toNat:Int) == 61 || (d.toNat:Int) == 62)=false):T7 [61] [tk3 [61] 0] (d::r):=b12 61 [] (d::r) rfl (c7z d r h)
theorem c0J (r:List UInt8) (hr:NoR r):T7 [49] [tkN 0] r:=b4p 49 [] r b4r rfl hr b5T
theorem a55 (k:Int) (c:UInt8) (w:List UInt8) (d:UInt8) (r:List UInt8) (hw:(c::w).all (fun x=>F3 (x.toNat:Int))=true) (h:c2Z k (c::w)=true) (hd:F3 (d.toNat:Int)=false):T7 (c::w) [⟨k,⟨(c::w).toArray⟩,0,0⟩] (d::r):=b5U k c w (d::r) hw h (c3b hd)
theorem c70 (k:Nat) (hk:k<8) (j:Nat) (r:List UInt8):T7 (opU k) (opT k) (T8 (opU k) j++49::r):=by
 match k,hk with
 | 0,_=>exact a6o 40 _ rfl rfl
 | 1,_ =>
  have h:∀x,T7 [61] [tk3 [61] 0] (T8 (opU 1) j++49::x):=fun x=>by
   cases j with
   | zero=>exact c0I 49 _ rfl
   | succ j=>exact c0I 123 _ rfl
  exact (a6o 123 _ rfl rfl).app ((a55 1 97 [] 61 _ rfl (by decide +kernel) rfl).app (h r))
 | 2,_=>exact (a6o 64 _ rfl rfl).app ((a55 1 97 [] 32 _ rfl (by decide +kernel) rfl).app (H7 _))
 | 3,_=>exact (a55 3 102 [117,110] 32 _ rfl (by decide +kernel) rfl).app ((H7 _).app ((a55 1 120 [] 61 _ rfl (by decide +kernel) rfl).app (b12 61 [62] _ rfl (c58 _))))
 | 4,_=>exact (a55 3 105 [102] 32 _ rfl (by decide +kernel) rfl).app ((H7 _).app ((a55 3 116 [114,117,101] 32 _ rfl (by decide +kernel) rfl).app ((H7 _).app ((a55 3 116 [104,101,110] 32 _ rfl (by decide +kernel) rfl).app ((H7 _).app ((c0J _ (c3b (d:=32) rfl)).app ((H7 _).app ((a55 3 101 [108,115,101] 32 _ rfl (by decide +kernel) rfl).app (H7 _)))))))))
 | 5,_=>exact (a55 3 108 [101,116] 32 _ rfl (by decide +kernel) rfl).app ((H7 _).app ((a55 1 120 [] 61 _ rfl (by decide +kernel) rfl).app ((c0I 49 _ rfl).app ((c0J _ (c3b (d:=32) rfl)).app ((H7 _).app ((a55 3 105 [110] 32 _ rfl (by decide +kernel) rfl).app (H7 _)))))))
 | 6,_=>exact (a55 3 99 [97,115,101] 32 _ rfl (by decide +kernel) rfl).app (H7 _)
 | 7,_=>exact (a6o 94 _ rfl rfl).app ((a55 1 98 [] 32 _ rfl (by decide +kernel) rfl).app (H7 _))
theorem a2k:∀j,T8 [] j=[]
 | 0=>rfl
 | j+1=>by rw [T8,a2k j];rfl
theorem c71 (k:Nat) (hk:k<8) (j:Nat):T7 (shU k) (a4B k) (T8 (shU k) j):=by
 match k,hk with
 | 0,_=>exact a6o 41 _ rfl rfl
 | 1,_=>exact a6o 125 _ rfl rfl
 | 2,_=>exact T7.nil _
 | 3,_=>exact T7.nil _
 | 4,_=>exact T7.nil _
 | 5,_=>exact T7.nil _
 | 6,_ =>
  have h:NoR (T8 (shU 6) j):=b13 (d:=32) rfl j
  exact (H7 _).app ((a55 3 111 [102] 32 _ rfl (by decide +kernel) rfl).app ((H7 _).app (b5U 3 101 [110,100] _ rfl (by decide +kernel) h)))
 | 7,_=>exact T7.nil _
theorem c72 (k:Nat) (hk:k<8) (m:Nat):NoR (T8 (shU k) m):=by
 match k,hk with
 | 0,_=>exact b13 (d:=41) rfl m
 | 1,_=>exact b13 (d:=125) rfl m
 | 2,_=>rw [show shU 2=[] from rfl,a2k];exact b7v
 | 3,_=>rw [show shU 3=[] from rfl,a2k];exact b7v
 | 4,_=>rw [show shU 4=[] from rfl,a2k];exact b7v
 | 5,_=>rw [show shU 5=[] from rfl,a2k];exact b7v
 | 6,_=>exact b13 (d:=32) rfl m
 | 7,_=>rw [show shU 7=[] from rfl,a2k];exact b7v
def I9 (k m:Nat):List Tok:=a3y (opT k) (a4B k) (opU k).length (shU k).length m++[⟨4,⟨#[]⟩,0,((a10 (opU k) (shU k) m).length:Int)⟩]
theorem b7w (k m:Nat) (hk:k<8):m9 (A5 (a10 (opU k) (shU k) m)) 0 false []=(I9 k m,0,0):=c2X (fun j=>c70 k hk j _) (fun j=>c71 k hk j) (c72 k hk m)
theorem c3c:∀t:Ty,t.parts.length≤1048576→A0 67 [.ag (cT t)] [.ag (cT t)]:=by
 intro t
 induction t using Ty.ind with
 | h t ih =>
  intro hN
  have hkl:=Q0 t
  obtain ⟨op,nm,n,ks⟩:=t
  simp only [Ty.kids] at hkl ih
  rw [cT]
  obtain ⟨K,hK⟩:∃K,K=rT ks:=⟨_,rfl⟩
  rw [←hK]
  refine sp9 Try.func67 rfl ?_;intro qa qb _ _ _ _ _ qi _ _ _ _ _ _ _ _ _ _ _ _ _ _ va vc _ ve;intros;rename_i hA
  cbv
  with_reducible apply f8 hA
  cbv
  refine a3j hA 3 25 true rfl ?_
  cbv
  repeat ((with_reducible apply f8 hA);cbv)
  obtain ⟨e1,e2,e3,e4,e5,e6,e7,e8,e9⟩:=m6 hA
  obtain ⟨r1,r2,r3,r4⟩:=C7 hA
  refine o7 hA (γ:=Int×List (List D)) (fun x=>[(9,vi .i64 x.1),(3,.own 2),(13,.jk)]) (fun x=>[(2,.row true 25 x.2)]) (fun x=>∃k:Nat,x.1=(k:Int)∧k≤ks.length∧x.2=rT (ks.take k)) (fun x=>ks.length - x.1.toNat) (0,[]) ?_ ?_ ?_
  ·exact ⟨0,rfl,c95 _,rfl⟩
  ·cbv
  ·intro x hinv
   obtain ⟨z,L⟩:=x
   cbv;refine gn ?_
   obtain ⟨k,hz,hk,hE⟩:=hinv
   have hz:z=(k:Int):=hz
   replace hE:L=rT (ks.take k):=hE
   have hlen:va K=(ks.length:Int):=by rw [r1,hK,a3m]
   have hlt:qi z (va K)=decide (k<ks.length):=by rw [e7,hlen,hz];exact c9w.2 (by omega)
   by_cases h9:k<ks.length
   ·rw [c9j h9] at hlt
    obtain ⟨x,hx⟩:∃x,ks[k]?=some x:=⟨_,c8T h9⟩
    have g1:vc K z=some (cT x):=by rw [r2,hz,c8Y (by omega),hK];exact b0Y hx
    have hsp:=ih x (c9h hx) (by have:=hkl.2 x (c9h hx);omega)
    have hsn:=b1i hx
    obtain ⟨o1,m1,n1,l1⟩:=x
    rw [cT] at g1 hsp hsn
    generalize rT l1=L1 at *
    rw [hlt]
    cbv;refine gn ?_
    rw [g1]
    cbv
    repeat ((with_reducible apply f8 hA);cbv)
    refine i9 hA _ hsp ?_ ?_
    ·rfl
    cbv
    refine C2 hA true ?_
    cbv
    refine E2 hA (by rw [hE,a3m];simp;omega) ?_
    cbv
    repeat ((with_reducible apply f8 hA);cbv)
    replace hz:z=(k:Int):=hz
    have hz1:qa .i64 (qb z 1)=((k+1:Nat):Int):=by rw [e1,e2,hz,IntWalk.i64_in _ (by omega)];omega
    refine ⟨(qa .i64 (qb z 1),ve L [[.sc (.int .u8 o1),.sc (.string m1),.sc (.int .i64 n1),.sl 4 L1]]),⟨k+1,hz1,h9,by show ve L _=_;rw [r4,hE,hsn]⟩,by show ks.length - (qa .i64 (qb z 1)).toNat<ks.length - z.toNat;rw [hz1,hz];omega,?_⟩
    cbv
   ·rw [c9d h9] at hlt
    rw [hlt]
    cbv;refine gn ?_
    have hE2:L=K:=by rw [hE,hK,c9J (by omega)]
    rw [hE2]
    exact ⟨rfl,trivial⟩
theorem Tm.ind {P:Tm→Prop} (h:∀op nm ar n b a ks,(∀k∈ks,P k)→P (.mk op nm ar n b a ks)):∀t,P t
 | .mk op nm ar n b a ks=>h op nm ar n b a ks fun k hk=>Tm.ind h k
mutual
def P1:Tm→List Tm
 | .mk op nm ar n h a ks=>.mk op nm ar n h a ks::a8Y ks
def a8Y:List Tm→List Tm
 | []=>[]
 | t::ts=>P1 t++a8Y ts
end
theorem a3J:∀l:List Tm,a8Y l=l.flatMap P1
 | []=>by rw [a8Y];rfl
 | t::l=>by rw [a8Y,a3J l];rfl
def anM:Tm→Ty
 | .mk _ _ _ _ _ a _=>a
theorem b7x (t:Tm):1≤(P1 t).length:=by
 obtain ⟨op,nm,ar,n,h,a,ks⟩:=t
 rw [P1,c9a]
 omega
theorem b5V {α β:Type} (f:α→List β) (hf:∀x,1≤(f x).length):∀l:List α,l.length≤(l.flatMap f).length
 | []=>c9c _
 | x::l=>by
  rw [c9q,c8U,c9a]
  have:=b5V f hf l
  have:=hf x
  omega
def GdT (t:Tm):Prop:=∀x∈P1 t,(anM x).parts.length≤1048576
theorem c3d {op:Int} {nm ar:ByteArray} {n:Int} {h:Bool} {a:Ty} {ks:List Tm} (hn:(P1 (.mk op nm ar n h a ks)).length≤1048576) (hg:GdT (.mk op nm ar n h a ks)):a.parts.length≤1048576∧ks.length≤1048576∧∀k∈ks,(P1 k).length≤1048576∧GdT k:=by
 unfold GdT at hg
 rw [P1] at hn hg
 rw [a3J] at hn hg
 rw [c9a] at hn
 refine ⟨hg _ (c8V ..),by have:=b5V P1 b7x ks;omega,fun k hk=>⟨?_,fun x hx=>hg x (c8X _ (c9K.2 ⟨k,hk,hx⟩))⟩⟩
 obtain ⟨i,hi,e⟩:=List.getElem_of_mem hk
 have:=b25 P1 ks i k (by rw [c8T hi,e])
 omega
theorem c59 {l:List Tm} {k:Nat} {t:Tm} (h:l[k]?=some t):(rM l)[k]?=some (cM t):=by rw [a40,c9v,h];rfl
theorem c3e {ks:List Tm} {k:Nat} {x:Tm} (h:ks[k]?=some x):rM (ks.take (k+1))=rM (ks.take k)++[cM x]:=by
 rw [a3D h,a40,a40,c9Y]
 rfl
theorem c5A:∀t:Tm,(P1 t).length≤1048576→GdT t→A0 41 [.ag (cM t)] [.ag (cM t)]:=by
 intro t
 induction t using Tm.ind with
 | h op nm ar n b a ks ih =>
  intro hN hG
  obtain ⟨ha,hkl,hkk⟩:=c3d hN hG
  have hty:=c3c a ha
  have hcp:=fun k hk=>ih k hk (hkk k hk).1 (hkk k hk).2
  clear ih hN hG hkk
  obtain ⟨a0,a1,a2,a3,haa⟩:=w8 a
  rw [haa] at hty
  rw [cM,haa]
  obtain ⟨K,hK⟩:∃K,K=rM ks:=⟨_,rfl⟩
  rw [←hK]
  have hln:K.length=ks.length:=by rw [hK,b3M]
  obtain ⟨inv,hv⟩:∃inv:Int×List (List D)→Prop,inv=fun x=>∃k:Nat,x.1=(k:Int)∧k≤ks.length∧x.2=rM (ks.take k):=⟨_,rfl⟩
  have hi0:inv (0,[]):=by rw [hv];exact ⟨0,rfl,c95 _,by rw [List.take_zero,rM]⟩
  refine sp9 Try.func41 rfl ?_;intro qa qb _ _ _ _ _ qi _ _ _ _ _ _ _ _ _ _ _ _ _ _ va vc;intros;rename_i hA
  obtain ⟨e1,e2,e3,e4,e5,e6,e7,e8,e9⟩:=m6 hA
  obtain ⟨r1,r2,r3,r4⟩:=C7 hA
  iterate 2 (try cbv;repeat ((first|refine a3j hA 3 28 true rfl ?_|with_reducible apply f8 hA);cbv))
  try simp (maxSteps:=4000000) only [nc] at *
  refine o7 hA (γ:=Int×List (List D)) (fun x=>[(9,vi .i64 x.1),(3,.own 2),(13,.jk)]) (fun x=>[(2,.row true 28 x.2)]) inv (fun x=>ks.length - x.1.toNat) (0,[]) hi0 ?_ ?_
  ·cbv
  ·intro x hinv
   obtain ⟨z,L⟩:=x
   cbv;refine gn ?_;try simp only [nc] at *
   rw [hv] at hinv
   obtain ⟨k,hz,hk,hE⟩:=hinv
   replace hz:z=(k:Int):=hz
   replace hE:L=rM (ks.take k):=hE
   have hLl:L.length≤1048576:=by rw [hE,b3M,c92];omega
   have hlt:qi z (va K)=decide (k<ks.length):=by rw [e7,r1,hln,hz];exact c9w.2 (by omega)
   by_cases h9:k<ks.length
   ·rw [c9j h9] at hlt
    obtain ⟨x,hx⟩:∃x,ks[k]?=some x:=⟨_,c8T h9⟩
    have h0:=hcp x (c9h hx)
    obtain ⟨d0,d1,d2,d3,d4,d5,d6,d7,d8,d9,hd⟩:=a8x x
    have gx:vc K z=some [d0,d1,d2,d3,d4,d5,d6,d7,d8,d9]:=by rw [r2,hz,c8Y (by omega),show ((k:Int)).toNat=k by omega,hK,c59 hx,hd]
    rw [hd] at h0
    have hz1:qa .i64 (qb z 1)=((k+1:Nat):Int):=by rw [e1,e2,hz,IntWalk.i64_in _ (by omega)];omega
    have hm:ks.length - (qa .i64 (qb z 1)).toNat<ks.length - z.toNat:=by rw [hz1,hz];omega
    have hi:inv (qa .i64 (qb z 1),L++[[d0,d1,d2,d3,d4,d5,d6,d7,d8,d9]]):=by
     rw [hv]
     exact ⟨k+1,hz1,h9,by show L++_=_;rw [hE,c3e hx,hd]⟩
    rw [hlt]
    iterate 2 (try cbv;repeat ((first|with_reducible apply f8 hA|rw [gx]|refine i9 hA _ h0 rfl ?_|refine j5 hA _ h0 ?_|rw [ea hA]|refine C2 hA true ?_|(refine E2 hA (by simp only [c9a,c9n];omega) ?_));cbv))
    try simp (maxSteps:=4000000) only [nc] at *
    refine ⟨_,hi,hm,?_⟩
    cbv
   ·rw [c9d h9] at hlt
    have hL2:K=L:=by rw [hK,hE,c9J (by omega)]
    rw [hlt,hL2]
    iterate 2 (try cbv;repeat ((first|with_reducible apply f8 hA|refine i9 hA _ hty rfl ?_|refine j5 hA _ hty ?_);cbv))
section
def cl (r:PL×PE):PL×PE:=if r.2.2=0 then r else (zPL,r.2)
section
variable {ts:List Tok} (hE:m8 ts) {n:Nat}
end
section
variable {ts:List Tok} {ex:PF}
variable (hE:m8 ts) (hf:B6 ts ex)
include hE hf
theorem c3f {q:PE} (hq:q.1<ts.length) (h:B3 ts Q6 q=true):(ex (j0 ts E5 (i7 ts (q.1+1,0)).2)).2.1<ts.length∧q.1+1≤(ex (j0 ts E5 (i7 ts (q.1+1,0)).2)).2.1:=by
 obtain ⟨k1,k2⟩:=n9 hE hq h
 obtain ⟨b1,b2,b3⟩:=w9 hE (p:=(q.1+1,0)) k1
 obtain ⟨c1,c2,c3⟩:=j7 (s:=E5) hE b1
 have hb:=hf _ c1
 have l1:=hb.lo
 simp only at b2
 exact ⟨hb.hi,by omega⟩
end
end
section
theorem c8w {ts:List Tok} {s:ByteArray} {p:PE} (h:p.2≠0):B3 ts s p=false:=by unfold B3;rw [c9f h];rfl
theorem c8x {ts:List Tok} {s:ByteArray} {p:PE} (h:p.2≠0):j0 ts s p=p:=c8Y h
def Gd (x:PL):Prop:=x.2.length=(P1 x.1).length∧GdT x.1
def OkG (r:PL×PE):Prop:=r.2.2=0→Gd r.1
theorem a7j {op:Int} {nm ar:ByteArray} {n:Int} {h:Bool} {a:Ty} {pl:Int} {ks:List PL} (ha:a.parts.length≤1048576) (hk:∀x∈ks,Gd x):Gd (C0 op nm ar n h a pl ks):=by
 unfold C0
 refine ⟨?_,fun x hx=>?_⟩
 ·show (pl::ks.flatMap fun p=>p.2).length=_
  rw [P1,a3J,c9a,c9a]
  congr 1
  clear ha
  induction ks with
  | nil=>rfl
  | cons k ks ih =>
   rw [c9q,c9m,c9q,c8U,c8U,ih fun x hx=>hk x (c8X _ hx),(hk k (c8V ..)).1]
 ·have hx:x∈P1 (.mk op nm ar n h a (ks.map fun p=>p.1)):=hx
  rw [P1,a3J] at hx
  rcases c9e.1 hx with rfl|hx
  ·exact ha
  ·obtain ⟨t,ht,hx⟩:=c9K.1 hx
   obtain ⟨k,hk1,rfl⟩:=d0o.1 ht
   exact (hk k hk1).2 x hx
theorem a57:s8.parts.length≤1048576:=by rw [a0n];omega
theorem c3g {op:Int} {nm ar:ByteArray} {pl:Int} {ks:List PL} (hk:∀x∈ks,Gd x):Gd (y7 op nm ar pl ks):=a7j a57 hk
theorem a3K (op:Int) (nm:ByteArray) (n a:Int):Gd (a1u op nm n a):=a7j (op:=op) (nm:=nm) (ar:=N5) (n:=n) (h:=false) (pl:=a) (ks:=[]) a57 fun x hx=>by cases hx
theorem c3h {op:Int} {nm ar:ByteArray} {pl:Int} {x:PL} (h:Gd x):Gd (y7 op nm ar pl [x]):=c3g fun y hy=>by rw [c97.1 hy];exact h
theorem b4s {op:Int} {nm ar:ByteArray} {pl:Int} {x y:PL} (h:Gd x) (h2:Gd y):Gd (y7 op nm ar pl [x,y]):=c3g fun z hz=>by
 rcases c9e.1 hz with rfl|hz
 ·exact h
 ·rw [c97.1 hz];exact h2
theorem a58 {ts:List Tok} {s:ByteArray} {p:PE} (h:(j0 ts s p).2=0):p.2=0:=by
 by_cases h0:p.2=0
 ·exact h0
 ·rw [c8x h0] at h;exact h
theorem c3i {ts:List Tok} {s:ByteArray} {p:PE} (h:B3 ts s p=true):p.2=0:=by
 by_cases h0:p.2=0
 ·exact h0
 ·rw [c8w h0] at h;cases h
section
variable {ts:List Tok} (hE:m8 ts) (hl:ts.length≤65537)
include hE hl
theorem b5W (n:Nat) {p:PE} (hp:p.1<ts.length):(a0E ts n p).1.parts.length≤1048576:=by
 unfold a0E
 split
 ·have hf:=(a1g hE n (p.1,0) hp).1
  have h1:=hf.sz
  have h2:=hf.hi
  show (P7 ts n p.1).1.parts.length≤_
  unfold P7
  split
  ·exact a57
  ·show (C6 _).parts.length≤_
   rw [a9Z _ _ (c9c _) hf.sp]
   omega
 ·exact a57
theorem b3e (n:Nat) {p:PE} (hp:p.1<ts.length):(B1 ts n p).1.2.2.1.parts.length≤1048576:=by
 unfold B1
 split
 ·rename_i h
  obtain ⟨a1,a2,a3⟩:=b1u hE hp h
  obtain ⟨b1,b2,b3⟩:=w9 hE a1
  obtain ⟨c1,c2,c3⟩:=j7 (s:=a5y) hE b1
  exact b5W hE hl (n - 1) c1
 ·exact a57
theorem b0u (n:Nat):∀(k:Nat) (s:List Pm×PE),s.2.1<ts.length→(∀m∈s.1,m.2.2.1.parts.length≤1048576)→∀m∈(F8 ts n k s).1,m.2.2.1.parts.length≤1048576
 | 0,s,h,hs=>hs
 | k+1,s,h,hs=>by
  rw [F8]
  split
  ·refine b0u n k _ (a1h hE n h).1 fun m hm=>?_
   rcases c99.1 hm with hm|hm
   ·exact hs m hm
   ·rw [c97.1 hm];exact b3e hE hl n h
  ·exact hs
omit hE hl in
theorem c0K {pl:Int} {r:Bool} {w:ByteArray} {x:PL} (hx:Gd x):∀(f:Bool) (l:List Pm),(∀m∈l,m.2.2.1.parts.length≤1048576)→Gd (fnW pl r w x f l)
 | _,[],_=>by rw [fnW];exact hx
 | f,m::l,h=>by
  rw [fnW]
  refine a7j (h m (c8V ..)) fun y hy=>?_
  rw [c97.1 hy]
  exact c0K hx false l fun m hm=>h m (c8X _ hm)
variable {ex:PF} (he:∀p:PE,p.2≠0→ex p=(zPL,p)) (hf:B6 ts ex) (hg:∀p:PE,p.1<ts.length→OkG (ex p))
include hg
theorem a6E (n:Nat) (pl:Int) (r:Bool) {p:PE} (hp:p.1<ts.length):OkG (H2 ts n ex pl r p):=by
 have hq:(if r=true then (i7 ts p).2 else p).1<ts.length:=by
  split
  ·exact (w9 hE hp).1
  ·exact hp
 unfold H2
 generalize (if r=true then (i7 ts p).2 else p)=q at *
 obtain ⟨a1,a2,a3,a4⟩:=a46 hE n hq
 refine fun h=>c0K (hg _ a1 h) true _ ?_
 refine b0u hE hl n _ _ (a1h hE n hq).1 fun m hm=>?_
 rw [c97.1 hm]
 exact b3e hE hl n hq
include he hf
theorem c3j {p:PE} (h:(ex p).2.2=0):p.2=0:=by
 by_cases h0:p.2=0
 ·exact h0
 ·rw [he p h0] at h;exact h
theorem b0v:∀(k:Nat) (s:List Fd×PE),s.2.1<ts.length→(s.2.2=0→∀f∈s.1,Gd f.2.2)→(J3 ts ex k s).2.1<ts.length∧((J3 ts ex k s).2.2=0→∀f∈(J3 ts ex k s).1,Gd f.2.2)
 | 0,s,h,hs=>⟨h,hs⟩
 | k+1,s,h,hs=>by
  rw [J3]
  split
  ·rename_i hc
   obtain ⟨a1,a2⟩:=c3f hE hf h hc
   obtain ⟨k1,k2⟩:=n9 hE h hc
   obtain ⟨b1,b2,b3⟩:=w9 hE (p:=(s.2.1+1,0)) k1
   obtain ⟨c1,c2,c3⟩:=j7 (s:=E5) hE b1
   refine b0v k _ a1 fun h0 f hf'=>?_
   rcases c99.1 hf' with hf'|hf'
   ·exact hs k2 f hf'
   ·rw [c97.1 hf'];exact hg _ c1 h0
  ·exact ⟨h,hs⟩
omit hE hl he hf hg in
theorem b4t {x:PL} (hx:Gd x):∀l:List Fd,(∀f∈l,Gd f.2.2)→Gd (fdW x l)
 | [],_=>by rw [fdW];exact hx
 | f::l,h=>by
  rw [fdW]
  exact b4s (h f (c8V ..)) (b4t hx l fun f hf=>h f (c8X _ hf))
theorem b4u (pl:Int) (w:ByteArray) {p:PE} (hp:p.1<ts.length):OkG (Z2 ts ex pl w p):=by
 obtain ⟨c1,c2,c3⟩:=j7 (s:=E5) hE hp
 have hF:=b0v hE hl he hf hg ts.length ([(w,pl,(ex (j0 ts E5 p)).1)],(ex (j0 ts E5 p)).2) (hf _ c1).hi (fun h0 f hf'=>by rw [c97.1 hf'];exact hg _ c1 h0)
 intro h
 have h2:=a58 h
 show Gd (fdW (L6 ts ex (a9r ts ex pl w p).2).1 (a9r ts ex pl w p).1)
 unfold a9r at h2 ⊢
 generalize J3 ts ex ts.length ([(w,pl,(ex (j0 ts E5 p)).1)],(ex (j0 ts E5 p)).2)=F at *
 unfold L6 at h2 ⊢
 split at h2
 ·rename_i hb
  rw [c8Y hb]
  exact b4t (hg _ (n9 hE hF.1 hb).1 h2) _ (hF.2 (c3i hb))
 ·rename_i hb
  rw [c8W hb]
  exact b4t (a3K _ _ _ _) _ (hF.2 h2)
theorem c5B {p:PE} (hp:p.1<ts.length):OkG (a0X ts ex p):=by
 unfold a0X
 split
 ·rename_i h
  obtain ⟨k1,k2⟩:=n9 hE hp h
  obtain ⟨b1,b2,b3⟩:=w9 hE (p:=(p.1+1,0)) k1
  obtain ⟨c1,c2,c3⟩:=j7 (s:=a1z) hE b1
  exact fun h=>c3h (hg _ c1 h)
 ·obtain ⟨a1,_,_⟩:=w9 hE hp
  obtain ⟨b1,b2,b3⟩:=w9 hE a1
  obtain ⟨c1,c2,c3⟩:=j7 (s:=a1z) hE b1
  exact fun h=>c3h (hg _ c1 h)
theorem c0L:∀(k:Nat) (f:Bool) (s:List PL×PE),s.2.1<ts.length→(s.2.2=0→∀x∈s.1,Gd x)→(chL ts ex k f s).2.2=0→∀x∈(chL ts ex k f s).1,Gd x
 | 0,f,s,h,hs=>hs
 | k+1,f,s,h,hs=>by
  rw [chL]
  split
  ·rename_i hc
   have hq:(chQ ts f s.2).1<ts.length:=by
    unfold chQ
    split
    ·exact h
    ·exact (j7 (s:=b0s) hE h).1
   have ha:=c7t hE hf he hq
   have hb:=c5B hE hl he hf hg hq
   have key:(a0X ts ex (chQ ts f s.2)).2.2=0→∀x∈s.1++[(a0X ts ex (chQ ts f s.2)).1],Gd x:=fun h0 x hx=>by
    rcases c99.1 hx with hx|hx
    ·exact hs hc.1 x hx
    ·rw [c97.1 hx];exact hb h0
   split
   ·exact key
   ·exact c0L k false _ ha.hi key
  ·exact hs
theorem b7y (pl:Int) {p:PE} (hp:p.1<ts.length):OkG (Q7 ts ex pl p):=by
 unfold Q7
 intro h
 have h2:=a58 h
 refine c3g (c0L hE hl he hf hg ts.length true ([(ex p).1],j0 ts a28 (ex p).2) (j7 (s:=a28) hE (hf p hp).hi).1 (fun h0 x hx=>?_) h2)
 rw [c97.1 hx]
 exact hg p hp (a58 h0)
theorem c0M (n:Nat) (pl:Int) {p:PE} (hp:p.1<ts.length):OkG (a0N ts n ex pl p):=by
 unfold a0N
 split
 ·rename_i h
  refine fun h2=>a7j (b5W hE hl (n - 1) (n9 hE (hf p hp).hi h).1) fun x hx=>?_
  rw [c97.1 hx]
  exact hg p hp (c3i h)
 ·exact fun h2=>hg p hp (a58 h2)
theorem b7z (pl:Int) {p:PE} (hp:p.1<ts.length):OkG (Q8 ts ex pl p):=by
 unfold Q8
 split
 ·exact fun _=>a3K _ _ _ _
 ·obtain ⟨b1,b2,b3⟩:=w9 hE hp
  split
  ·rename_i h
   obtain ⟨k1,_⟩:=n9 hE b1 h
   intro h2
   have h3:=a58 h2
   have h4:=a58 (c3j hE hl he hf hg h3)
   exact b4s (hg _ k1 h4) (hg _ (j7 (s:=N1) hE (hf _ k1).hi).1 h3)
  ·exact b4u hE hl he hf hg pl _ b1
theorem c3k (n:Nat) {p:PE} (hp:p.1<ts.length):OkG (K3 ts n ex p):=by
 unfold K3
 split
 ·exact fun h=>by rename_i h2;exact absurd h h2
 split
 ·exact fun _=>a3K _ _ _ _
 split
 ·exact fun _=>a3K _ _ _ _
 split
 ·exact fun _=>a3K _ _ _ _
 split
 ·exact fun _=>a3K _ _ _ _
 split
 ·rename_i h;exact c0M hE hl he hf hg n _ (p:=(p.1+1,0)) (n9 hE hp h).1
 split
 ·rename_i h;exact b7z hE hl he hf hg _ (p:=(p.1+1,0)) (n9 hE hp h).1
 split
 ·rename_i h;exact b7y hE hl he hf hg _ (p:=(p.1+1,0)) (n9 hE hp h).1
 ·exact fun h=>absurd h (C8 5 (by decide) p).2
theorem c3l (n:Nat) {sm:PF} (hs:B6 ts sm) (hsg:∀p:PE,p.1<ts.length→OkG (sm p)) {p:PE} (hp:p.1<ts.length):OkG (a0e ts n ex sm p):=by
 unfold a0e
 split
 ·exact fun h=>by rename_i h2;exact absurd h h2
 split
 ·rename_i h;exact a6E hE hl hg n _ _ (p:=(p.1+1,0)) (n9 hE hp h).1
 split
 ·rename_i h;exact a6E hE hl hg n _ _ (p:=(p.1+1,0)) (n9 hE hp h).1
 split
 ·rename_i h
  obtain ⟨b1,_,_⟩:=w9 hE (p:=(p.1+1,0)) (n9 hE hp h).1
  have c1:=(j7 (s:=E5) hE b1).1
  have d1:=(j7 (s:=gIn) hE (hf _ c1).hi).1
  unfold c08
  intro h2
  have h3:=a58 (c3j hE hl he hf hg h2)
  exact b4s (hg _ c1 h3) (hg _ d1 h2)
 split
 ·rename_i h
  have k1:=(n9 hE hp h).1
  have c1:=(j7 (s:=a3w) hE (hf (p.1+1,0) k1).hi).1
  have d1:=(j7 (s:=U7) hE (hf _ c1).hi).1
  unfold ifW
  intro h2
  have h3:=a58 (c3j hE hl he hf hg h2)
  have h4:=a58 (c3j hE hl he hf hg h3)
  refine c3g fun x hx=>?_
  rcases c9e.1 hx with rfl|hx
  ·exact hg _ k1 h4
  rcases c9e.1 hx with rfl|hx
  ·exact hg _ c1 h3
  ·rw [c97.1 hx];exact hg _ d1 h2
 ·have ha:=hsg p hp
  unfold b7o
  split
  ·rename_i h
   exact fun h2=>b4s (ha (c3i h)) (hsg _ (n9 hE (hs p hp).hi h).1 h2)
  split
  ·rename_i h
   exact fun h2=>b4s (ha (c3i h)) (hsg _ (n9 hE (hs p hp).hi h).1 h2)
  ·exact ha
end
section
variable {ts:List Tok} (hE:m8 ts)
theorem b3f {a:Int}:∀(k:Nat) (s:PL×PE),OkG s→OkG (M4 ts a k s)
 | 0,s,h=>h
 | k+1,s,h=>by
  rw [M4]
  cases hg:r7 ts a1w s.2 with
  | none=>exact h
  | some g =>
   refine b3f k _ fun h2=>c3h (h ?_)
   by_cases h0:s.2.2=0
   ·exact h0
   ·rw [a3G h0] at hg;cases hg
include hE
theorem b14 {sg:List ByteArray} {nx:PF} (hf:B6 ts nx) (hn:∀p:PE,p.1<ts.length→OkG (nx p)) {a:Int}:∀(k:Nat) (s:PL×PE),s.2.1<ts.length→OkG s→OkG (a0M sg nx ts a k s)
 | 0,s,hs,h=>h
 | k+1,s,hs,h=>by
  rw [a0M]
  cases hg:r7 ts sg s.2 with
  | none=>exact h
  | some g =>
   obtain ⟨g1,g2,g3⟩:=P6 hE hs hg
   exact b14 hf hn k _ (hf (s.2.1+1,0) g2).hi fun h2=>b4s (h g1) (hn (s.2.1+1,0) g2 h2)
omit hE in
theorem b5X {pr:PF} (hf:B6 ts pr) (hn:∀p:PE,p.1<ts.length→OkG (pr p)) {a:Int}:∀(k:Nat) (s:PL×PE),s.2.1<ts.length→OkG s→OkG (a14 pr ts a k s)
 | 0,s,hs,h=>h
 | k+1,s,hs,h=>by
  rw [a14]
  split
  ·rename_i hc
   exact b5X hf hn k _ (hf s.2 hs).hi fun h2=>b4s (h hc.1) (hn s.2 hs h2)
  ·exact h
theorem c5C (m:Nat) {nx pr:PF} (hn:∀p:PE,p.1<ts.length→OkG (nx p)) (hr:∀p:PE,p.1<ts.length→OkG (pr p)) {p:PE} (hp:p.1<ts.length):OkG (a51 ts m nx pr p):=by
 have key:∀(op:Int),p.1+1<ts.length→OkG (a6K ts m op pr p):=fun op k1=>by
  obtain ⟨b1,b2,b3⟩:=w9 hE (p:=(p.1+1,0)) k1
  unfold a6K
  split
  ·rename_i h
   intro h2
   exfalso
   have h2:(M3 m (i7 ts (p.1+1,0)).2).2=0:=h2
   unfold M3 at h2
   split at h2
   ·exact (C8 6 (by decide) _).2 h2
   ·rename_i h3
    exact (h.resolve_left h3) h2
  ·exact fun h2=>c3h (hr _ b1 h2)
 unfold a51
 split
 ·rename_i h;exact key _ (n9 hE hp h).1
 split
 ·rename_i h;exact key _ (n9 hE hp h).1
 ·exact hn p hp
end
theorem c3T {ts:List Tok} (hE:m8 ts) (hl:ts.length≤65537):∀n,(∀p:PE,p.1<ts.length→OkG ((G2 ts n).1 p))∧(∀p:PE,p.1<ts.length→OkG ((G2 ts n).2 p))
 | 0=>by
  have h:∀p:PE,p.1<ts.length→OkG (zPL,C5 6 p):=fun p _ h=>absurd h (C8 6 (by decide) p).2
  exact ⟨h,h⟩
 | n+1=>by
  obtain ⟨g1,g2⟩:=c3T hE hl n
  obtain ⟨h1,h2,h3⟩:=a48 hE n
  have hat:B6 ts (K3 ts (n+1) (G2 ts n).1):=fun p hp=>b1y hE (n+1) h1 h2 hp
  have hP:B6 ts (a8U ts n (G2 ts n).1 (G2 ts n).2):=(a48 hE (n+1)).2.2
  have gP:∀p:PE,p.1<ts.length→OkG (a8U ts n (G2 ts n).1 (G2 ts n).2 p):=fun p hp=>c5C hE n (fun q hq=>b3f _ _ (c3k hE hl h2 h1 g1 (n+1) hq)) g2 hp
  have gA:∀p:PE,p.1<ts.length→OkG (a8F (a8U ts n (G2 ts n).1 (G2 ts n).2) ts p):=fun p hp=>b5X hP gP _ _ (hP p hp).hi (gP p hp)
  have gM:∀p:PE,p.1<ts.length→OkG (a6A (a8F (a8U ts n (G2 ts n).1 (G2 ts n).2) ts) ts p):=fun p hp=>b14 hE (c0a hP) gA _ _ (c0a hP p hp).hi (gA p hp)
  have hM:=(a3x hE hP).1
  have gS:∀p:PE,p.1<ts.length→OkG (c0A ts (a8U ts n (G2 ts n).1 (G2 ts n).2) p):=fun p hp=>b14 hE hM gM _ _ (hM p hp).hi (gM p hp)
  exact ⟨fun p hp=>c3l hE hl h2 h1 g1 (n+1) (a3x hE hP).2 gS hp,gP⟩
end
section
abbrev PxN (B:List (List D)) (x:List D) (y:List (List D)) (p c:Int):Prop:=A0 17 [.one (.sl 1 B)] [.ag x,.one (.sl 1 y),.one (.sc (.int .i64 p)),.one (.sc (.int .u8 c))]
abbrev PxZ (B:List (List D)) (x:List D) (y:D) (p c:Int):Prop:=A0 17 [.one (.sl 1 B)] [.ag x,.one y,.one (.sc (.int .i64 p)),.one (.sc (.int .u8 c))]
abbrev TkN (f:Nat) (k:IntKind) (B T:List (List D)) (p c:Int):Prop:=A0 f [.one (.sl 1 B)] [.one (.sl 4 T),.one (.sc (.int .i64 p)),.one (.sc (.int k c))]
abbrev z10:List D:=[.sc (.int .u8 0),.sc (.string ⟨#[]⟩),.sc (.string ⟨#[]⟩),.sc (.int .i64 0),.sc (.bool false),.sc (.int .u8 0),.sc (.string ⟨#[]⟩),.sc (.int .i64 0),.sl 0 [],.sl 0 []]
abbrev NwN (T:List (List D)):Prop:=n7 36 [.d (.sl 4 T)] [] (fun res os=>res=[.ptr 0 0]∧os=[.box [.d (.sl 4 T),.d (.sc (.int .i64 0))]])
section
variable {B T:List (List D)} {p e q a k n u1 u2:Int} {x y:Nat→D} {tx:ByteArray} {ps:List (List D)}
theorem c8y {c:Int} (h0:TkN 35 .u8 B T p c) (b0:(c == 0)=false):PxZ B z10 (.sl 0 []) p c:=wk Try.func17 rfl
theorem c8z (hT:TkN 35 .u8 B T p 0) (hN:NwN T) (h1:A7 37 [vi .i64 1] T (0,0,0) [.ag (y5 (cE x))] (e,q,a)) (h2:A7 38 [] T (e,q,a) [vb false] (e,q,a)):PxZ B z10 (.sl 0 []) q e:=by
 refine sp9 Try.func17 rfl ?_;intro _ _ _ _ _ _ _ _ _ qk;intros;rename_i hA
 have g0:qk 0 0=true:=ebr hA
 iterate 2 (try cbv;repeat ((first|with_reducible apply f8 hA|rw [g0]|refine i9 hA _ hT rfl ?_|refine j5 hA _ hT ?_|(refine o6 hA [] hN ⟨rfl,rfl,rfl,rfl,rfl,rfl,rfl⟩ ?_;rintro _ _ ⟨rfl,rfl⟩)|(refine o6 hA [2,1] h1 ⟨rfl,rfl,rfl,rfl,rfl,rfl,rfl⟩ ?_;rintro _ _ ⟨rfl,rfl⟩)|(refine o6 hA [2,1] h2 ⟨rfl,rfl,rfl,rfl,rfl,rfl,rfl⟩ ?_;rintro _ _ ⟨rfl,rfl⟩));cbv))
theorem c80 {e2 q2 a2:Int} (hT:TkN 35 .u8 B T p 0) (hN:NwN T) (h1:A7 37 [vi .i64 1] T (0,0,0) [.ag (y5 (cE x))] (e,q,a)) (h2:A7 38 [] T (e,q,a) [vb true] (e,q,a)) (h3:PkN T a k u1 u2 tx) (b0:(k == 4)=false) (h4:A7 40 [vi .u8 5] T (e,q,a) [.ag pz0] (e2,q2,a2)) (h5:A7 38 [] T (e2,q2,a2) [vb false] (e2,q2,a2)):PxZ B z10 (.sl 0 []) q2 e2:=by
 unfold pz0 at h4
 refine sp9 Try.func17 rfl ?_;intro _ _ _ _ _ _ _ _ _ qk;intros;rename_i hA
 have g0:qk 0 0=true:=ebr hA
 have g1:=eb hA b0
 iterate 2 (try cbv;repeat ((first|with_reducible apply f8 hA|rw [g0]|rw [g1]|refine i9 hA _ hT rfl ?_|refine j5 hA _ hT ?_|(refine o6 hA [] hN ⟨rfl,rfl,rfl,rfl,rfl,rfl,rfl⟩ ?_;rintro _ _ ⟨rfl,rfl⟩)|(refine o6 hA [2,1] h1 ⟨rfl,rfl,rfl,rfl,rfl,rfl,rfl⟩ ?_;rintro _ _ ⟨rfl,rfl⟩)|(refine o6 hA [2,1] h2 ⟨rfl,rfl,rfl,rfl,rfl,rfl,rfl⟩ ?_;rintro _ _ ⟨rfl,rfl⟩)|(refine a8h hA [1] h3 ⟨rfl,rfl,rfl,rfl,rfl,rfl,rfl⟩ rfl ?_;rintro _ rfl)|refine b0P hA [1] h3 ⟨rfl,rfl,rfl,rfl,rfl,rfl,rfl⟩ rfl ?_|(refine o6 hA [2,1] h4 ⟨rfl,rfl,rfl,rfl,rfl,rfl,rfl⟩ ?_;rintro _ _ ⟨rfl,rfl⟩)|(refine o6 hA [2,1] h5 ⟨rfl,rfl,rfl,rfl,rfl,rfl,rfl⟩ ?_;rintro _ _ ⟨rfl,rfl⟩));cbv))
theorem c81 (hT:TkN 35 .u8 B T p 0) (hN:NwN T) (h1:A7 37 [vi .i64 1] T (0,0,0) [.ag [.d (x 0),.d (x 1),.d (x 2),.d (x 3),.d (x 4),.d (x 5),.d (x 6),.d (x 7),.d (x 8),.d (x 9),.d (.sl 1 ps)]] (e,q,a)) (h2:A7 38 [] T (e,q,a) [vb true] (e,q,a)) (h3:PkN T a k u1 u2 tx) (b0:(k == 4)=true) (l0:decide (5000<(ps.length:Int))=true):PxZ B z10 (.sl 0 []) 0 7:=by
 refine sp9 Try.func17 rfl ?_;intro _ _ _ _ _ _ _ _ _ qk;intros;rename_i hA
 have g0:qk 0 0=true:=ebr hA
 have g1:=eb hA b0
 have g2:=eln hA l0
 iterate 2 (try cbv;repeat ((first|with_reducible apply f8 hA|rw [g0]|rw [g1]|rw [g2]|refine i9 hA _ hT rfl ?_|refine j5 hA _ hT ?_|(refine o6 hA [] hN ⟨rfl,rfl,rfl,rfl,rfl,rfl,rfl⟩ ?_;rintro _ _ ⟨rfl,rfl⟩)|(refine o6 hA [2,1] h1 ⟨rfl,rfl,rfl,rfl,rfl,rfl,rfl⟩ ?_;rintro _ _ ⟨rfl,rfl⟩)|(refine o6 hA [2,1] h2 ⟨rfl,rfl,rfl,rfl,rfl,rfl,rfl⟩ ?_;rintro _ _ ⟨rfl,rfl⟩)|(refine a8h hA [1] h3 ⟨rfl,rfl,rfl,rfl,rfl,rfl,rfl⟩ rfl ?_;rintro _ rfl)|refine b0P hA [1] h3 ⟨rfl,rfl,rfl,rfl,rfl,rfl,rfl⟩ rfl ?_);cbv))
theorem c82 (hT:TkN 35 .u8 B T p 0) (hN:NwN T) (h1:A7 37 [vi .i64 1] T (0,0,0) [.ag [.d (x 0),.d (x 1),.d (x 2),.d (x 3),.d (x 4),.d (x 5),.d (x 6),.d (x 7),.d (x 8),.d (x 9),.d (.sl 1 ps)]] (e,q,a)) (h2:A7 38 [] T (e,q,a) [vb true] (e,q,a)) (h3:PkN T a k u1 u2 tx) (b0:(k == 4)=true) (l0:decide (5000<(ps.length:Int))=false) (h4:A0 41 [.ag [x 0,x 1,x 2,x 3,x 4,x 5,x 6,x 7,x 8,x 9]] [.ag [x 0,x 1,x 2,x 3,x 4,x 5,x 6,x 7,x 8,x 9]]):PxZ B [x 0,x 1,x 2,x 3,x 4,x 5,x 6,x 7,x 8,x 9] (.sl 1 ps) 0 0:=by
 refine sp9 Try.func17 rfl ?_;intro _ _ _ _ _ _ _ _ _ qk;intros;rename_i hA
 have g0:qk 0 0=true:=ebr hA
 have g1:=eb hA b0
 have g2:=eln hA l0
 iterate 2 (try cbv;repeat ((first|with_reducible apply f8 hA|rw [g0]|rw [g1]|rw [g2]|refine i9 hA _ hT rfl ?_|refine j5 hA _ hT ?_|refine i9 hA _ h4 rfl ?_|refine j5 hA _ h4 ?_|(refine o6 hA [] hN ⟨rfl,rfl,rfl,rfl,rfl,rfl,rfl⟩ ?_;rintro _ _ ⟨rfl,rfl⟩)|(refine o6 hA [2,1] h1 ⟨rfl,rfl,rfl,rfl,rfl,rfl,rfl⟩ ?_;rintro _ _ ⟨rfl,rfl⟩)|(refine o6 hA [2,1] h2 ⟨rfl,rfl,rfl,rfl,rfl,rfl,rfl⟩ ?_;rintro _ _ ⟨rfl,rfl⟩)|(refine a8h hA [1] h3 ⟨rfl,rfl,rfl,rfl,rfl,rfl,rfl⟩ rfl ?_;rintro _ rfl)|refine b0P hA [1] h3 ⟨rfl,rfl,rfl,rfl,rfl,rfl,rfl⟩ rfl ?_);cbv))
end
def pxW (l:List UInt8):Tm×List Int×Int×Int :=
 let r:=m9 (A5 l) 0 false []
 if r.2.2≠0 then (a1L,[],r.2.1,r.2.2)
 else
  let E:=(G2 r.1 200).1 (0,0)
  if E.2.2≠0 then (a1L,[],(l9 r.1 E.2.1).at_,E.2.2)
  else if (l9 r.1 E.2.1).kind≠4 then (a1L,[],(l9 r.1 E.2.1).at_,5)
  else if 5000<E.1.2.length then (a1L,[],0,7)
  else (E.1.1,E.1.2,0,0)
theorem c0O:a24 z10 (cM a1L):=by
 unfold a1L s8
 rw [cM,cT,rT,rM]
 repeat (first|exact .nil|refine .cons (.refl _) ?_|refine .cons (.nil _ _) ?_)
theorem PxZ.z {B:List (List D)} {p c:Int} (h:PxZ B z10 (.sl 0 []) p c):PxN B (cM a1L) (rZ []) p c:=h.likeq ⟨.ag c0O,.one (.nil _ _),.same _,.same _,trivial⟩
theorem c77 {E:PL} {x:Nat→D} (h:cP E=cE x):cM E.1=[x 0,x 1,x 2,x 3,x 4,x 5,x 6,x 7,x 8,x 9]∧D.sl 1 (rZ E.2)=x 10:=by
 obtain ⟨d0,d1,d2,d3,d4,d5,d6,d7,d8,d9,hd⟩:=a8x E.1
 unfold cP at h
 rw [hd] at h ⊢
 injection h with e0 h
 injection h with e1 h
 injection h with e2 h
 injection h with e3 h
 injection h with e4 h
 injection h with e5 h
 injection h with e6 h
 injection h with e7 h
 injection h with e8 h
 injection h with e9 h
 injection h with e10 h
 subst e0 e1 e2 e3 e4 e5 e6 e7 e8 e9
 exact ⟨rfl,e10⟩
end
section
section
variable {k m:Nat}
theorem a3L {j i a:Nat} {t:Tok} (hj:j<m) (h:(opT k)[i]?=some t) (e:(opT k).length * j+i=a):l9 (I9 k m) a=shT (j * (opU k).length) t:=by
 have hi:i<(opT k).length:=(c8S.1 h).1
 unfold l9 I9
 rw [←e,b7t hj hi,h]
 rfl
theorem c0P {a:Nat} (e:(opT k).length * m=a):l9 (I9 k m) a=shT (m * (opU k).length) b4r:=by
 unfold l9 I9
 rw [←e,c0G]
 rfl
theorem c3m {j i a:Nat} {t:Tok} (hj:j<m) (h:(a4B k)[i]?=some t) (e:(opT k).length * m+1+((a4B k).length * j+i)=a):l9 (I9 k m) a=shT (j * (shU k).length+1+m * (opU k).length) t:=by
 have hi:i<(a4B k).length:=(c8S.1 h).1
 unfold l9 I9
 rw [←e,b7u hj hi,h]
 rfl
theorem a2B {a:Nat} (e:(opT k).length * m+1+(a4B k).length * m=a):U9 (l9 (I9 k m) a) 4 []:=by
 unfold l9 I9
 rw [←e,c0H]
 exact ⟨rfl,rfl⟩
theorem a4C {j i a:Nat} {b:List UInt8} {x:Int} (hj:j<m) (h:(opT k)[i]?=some (tk3 b x)) (e:(opT k).length * j+i=a):U9 (l9 (I9 k m) a) 3 b:=by
 rw [a3L hj h e]
 exact ⟨rfl,rfl⟩
theorem c0Q {j i a:Nat} {c:UInt8} {x:Int} (hj:j<m) (h:(opT k)[i]?=some (tk1 c x)) (e:(opT k).length * j+i=a):(l9 (I9 k m) a).kind=1:=by
 rw [a3L hj h e]
 rfl
theorem c78 {j i a:Nat} {x:Int} (hj:j<m) (h:(opT k)[i]?=some (tkN x)) (e:(opT k).length * j+i=a):U9 (l9 (I9 k m) a) 2 []:=by
 rw [a3L hj h e]
 exact ⟨rfl,rfl⟩
theorem b3g {a:Nat} (e:(opT k).length * m=a):U9 (l9 (I9 k m) a) 2 []:=by
 rw [c0P e]
 exact ⟨rfl,rfl⟩
theorem c3n {j i a:Nat} {b:List UInt8} {x:Int} (hj:j<m) (h:(a4B k)[i]?=some (tk3 b x)) (e:(opT k).length * m+1+((a4B k).length * j+i)=a):U9 (l9 (I9 k m) a) 3 b:=by
 rw [c3m hj h e]
 exact ⟨rfl,rfl⟩
end
def eK:Nat→Nat
 | 0=>200
 | 1=>600
 | 2=>400
 | 3=>600
 | 4=>996
 | 5=>998
 | 6=>200
 | _=>400
def b70:Nat→Int
 | 4=>3 - 20
 | 5=>6 - 11
 | _=>0
theorem c0R (k m:Nat) (hk:k<8):lE (I9 k m) 200 0=P8 (opT k).length (a4B k).length (eK k) m 0:=by
 match k,hk with
 | 0,_=>exact c3M (fun j hj=>a4C (i:=0) hj rfl (by show 1 * j+0=j;omega)) (b3g (by show 1 * m=m;omega)) (fun j hj=>c3n (i:=0) hj rfl (by show 1 * m+1+(1 * j+0)=m+1+j;omega)) (a2B (by show 1 * m+1+1 * m=2 * m+1;omega)) 200 0 rfl (c95 _)
 | 1,_=>exact c3N (fun j hj=>a4C (i:=0) hj rfl (by show 3 * j+0=3 * j;omega)) (fun j hj=>c0Q (i:=1) hj rfl rfl) (fun j hj=>a4C (i:=2) hj rfl rfl) (b3g rfl) (fun j hj=>c3n (i:=0) hj rfl (by show 3 * m+1+(1 * j+0)=3 * m+1+j;omega)) (a2B (by show 3 * m+1+1 * m=4 * m+1;omega)) 200 0 rfl (c95 _)
 | 2,_=>exact b5Q 64 (.inl rfl) (fun j hj=>a4C (i:=0) hj rfl rfl) (fun j hj=>c0Q (i:=1) hj rfl rfl) (b3g rfl) (a2B (by show 2 * m+1+0 * m=2 * m+1;omega))
 | 3,_=>exact c3P (fun j hj=>a4C (i:=0) hj rfl rfl) (fun j hj=>c0Q (i:=1) hj rfl rfl) (fun j hj=>a4C (i:=2) hj rfl rfl) (b3g rfl) (a2B (by show 3 * m+1+0 * m=3 * m+1;omega)) 200 0 rfl (c95 _)
 | 4,_=>exact c3Q (fun j hj=>a4C (i:=0) hj rfl rfl) (fun j hj=>a4C (i:=1) hj rfl rfl) (fun j hj=>a4C (i:=2) hj rfl rfl) (fun j hj=>c78 (i:=3) hj rfl rfl) (fun j hj=>a4C (i:=4) hj rfl rfl) (b3g rfl) (a2B (by show 5 * m+1+0 * m=5 * m+1;omega)) 199 0 rfl (c95 _)
 | 5,_=>exact c3R (fun j hj=>a4C (i:=0) hj rfl rfl) (fun j hj=>c0Q (i:=1) hj rfl rfl) (fun j hj=>a4C (i:=2) hj rfl rfl) (fun j hj=>c78 (i:=3) hj rfl rfl) (fun j hj=>a4C (i:=4) hj rfl rfl) (b3g rfl) (a2B (by show 5 * m+1+0 * m=5 * m+1;omega)) 199 0 rfl (c95 _)
 | 6,_=>exact c3S (fun j hj=>a4C (i:=0) hj rfl (by show 1 * j+0=j;omega)) (b3g (by show 1 * m=m;omega)) (fun j hj=>c3n (i:=0) hj rfl (by show 1 * m+1+(2 * j+0)=m+1+2 * j;omega)) (fun j hj=>c3n (i:=1) hj rfl (by show 1 * m+1+(2 * j+1)=m+1+2 * j+1;omega)) (a2B (by show 1 * m+1+2 * m=3 * m+1;omega)) 200 0 rfl (c95 _)
 | 7,_=>exact b5Q 94 (.inr rfl) (fun j hj=>a4C (i:=0) hj rfl rfl) (fun j hj=>c0Q (i:=1) hj rfl rfl) (b3g rfl) (a2B (by show 2 * m+1+0 * m=2 * m+1;omega))
theorem a0o {k m c i:Nat} {t:Tok} (hm:200≤m) (h:(opT k)[0]?=some t) (ht:t.at_=0) (e:(opT k).length * 200=c):(l9 (I9 k m) c).at_=200 * ((opU k).length:Int):=by
 by_cases h2:m=200
 ·rw [c0P (by rw [h2];exact e),h2]
  show (0:Int)+((200 * (opU k).length:Nat):Int)=_
  omega
 ·rw [a3L (j:=200) (i:=0) (by omega) h e]
  show t.at_+((200 * (opU k).length:Nat):Int)=_
  rw [ht]
  omega
theorem c3o (k m:Nat) (hk:k<8) (hm:200≤m):(l9 (I9 k m) (eK k)).at_=200 * ((opU k).length:Int)+b70 k:=by
 match k,hk with
 | 0,_=>exact (a0o (i:=0) hm rfl rfl rfl).trans (by rfl)
 | 1,_=>exact (a0o (i:=0) hm rfl rfl rfl).trans (by rfl)
 | 2,_=>exact (a0o (i:=0) hm rfl rfl rfl).trans (by rfl)
 | 3,_=>exact (a0o (i:=0) hm rfl rfl rfl).trans (by rfl)
 | 4,_ =>
  exact (congrArg Tok.at_ (a3L (k:=4) (m:=m) (j:=199) (i:=1) (a:=eK 4) (by omega) rfl rfl)).trans (by rfl)
 | 5,_ =>
  exact (congrArg Tok.at_ (a3L (k:=5) (m:=m) (j:=199) (i:=3) (a:=eK 5) (by omega) rfl rfl)).trans (by rfl)
 | 6,_=>exact (a0o (i:=0) hm rfl rfl rfl).trans (by rfl)
 | 7,_=>exact (a0o (i:=0) hm rfl rfl rfl).trans (by rfl)
theorem c0S (k:Nat) (hk:k<8):(opT k).length+(a4B k).length≤5:=by
 match k,hk with
 | 0,_|1,_|2,_|3,_|4,_|5,_|6,_|7,_=>decide
theorem c3p (k m:Nat) (hk:k<8) (hm:m<260):(pxW (a10 (opU k) (shU k) m)).2.2=if m<200 then (0,0) else (200 * ((opU k).length:Int)+b70 k,6):=by
 have hs:=b7w k m hk
 have hE:=(b5r (A5 (a10 (opU k) (shU k) m)) (by rw [hs])).1
 rw [hs] at hE
 replace hE:m8 (I9 k m):=hE
 have hlen:(I9 k m).length=(opT k).length * m+1+(a4B k).length * m+1:=by
  unfold I9
  rw [c8U,a8X]
  rfl
 have hf:=(a48 hE 200).1 (0,0) (by show 0<(I9 k m).length;omega)
 have he:=c0R k m hk
 have hc:(opT k).length * m+(a4B k).length * m≤1300:=by
  rw [←d1q]
  exact d0k (d0F (c0S k hk) (show m≤260 by omega)) (by decide)
 have hsz:((G2 (I9 k m) 200).1 (0,0)).1.2.length≤5000:=by
  have h1:=hf.sz
  have h2:=hf.hi
  simp only at h1
  omega
 unfold pxW
 rw [hs]
 show (if (0:Int)≠0 then _ else if ((G2 (I9 k m) 200).1 (0,0)).2.2≠0 then (a1L,[],(l9 (I9 k m) ((G2 (I9 k m) 200).1 (0,0)).2.1).at_,((G2 (I9 k m) 200).1 (0,0)).2.2) else _:Tm×List Int×Int×Int).2.2=_
 rw [c8W (fun h=>h rfl)]
 have he2:((G2 (I9 k m) 200).1 (0,0)).2=P8 (opT k).length (a4B k).length (eK k) m 0:=he
 rw [he2]
 by_cases h:m<200
 ·rw [T6 h,c8Y h,c8W (fun h=>h rfl)]
  have hk4:=a2B (k:=k) (m:=m) rfl
  rw [show (opT k).length * m+1+(a4B k).length * (m - 0)=(opT k).length * m+1+(a4B k).length * m by rw [Nat.sub_zero]]
  rw [c8W (fun h=>h hk4.1),c8W (Nat.not_lt.2 hsz)]
 ·rw [P0 h,c8W h,c8Y (show (6:Int)≠0 by decide)]
  show ((l9 (I9 k m) (eK k)).at_,(6:Int))=_
  rw [c3o k m hk (by omega)]
end
theorem c3U (l:List UInt8) (hl:l.length≤65536):PxN (rU l) (cM (pxW l).1) (rZ (pxW l).2.1) (pxW l).2.2.1 (pxW l).2.2.2:=by
 have hT:=b9n l hl
 have hok:=b5r (A5 l)
 have hln:(A5 l).length=l.length:=by unfold A5;rw [c9r]
 unfold pxW
 generalize m9 (A5 l) 0 false []=r at *
 dsimp only
 by_cases h0:r.2.2=0
 ·rw [c8W (fun h=>h h0)]
  obtain ⟨hE,hNm,hpos,hle⟩:=hok h0
  rw [h0] at hT
  have hlt:r.1.length≤65537:=by omega
  have hl2:r.1.length≤1048576:=by omega
  have hv:a1y 200 1:=by unfold a1y;omega
  have hx:=(c7y hE hNm hlt 200 1 hv).1 (0,0) hpos
  have hfit:=(a48 hE 200).1 (0,0) hpos
  have hgd:=(c3T hE hlt 200).1 (0,0) hpos
  have hnw:NwN (H8 r.1):=b21 (H8 r.1) (fun h=>by have:=a7e r.1;rw [h] at this;simp at this;omega) (by rw [a7e];omega)
  generalize (G2 r.1 200).1 (0,0)=E at *
  have hvi:=hfit.hi
  have hsz:=hfit.sz
  obtain ⟨x,hxx⟩:=A8 E.1
  have hok6:=okP hl2 hvi
  have hpk:=b9t hl2 hvi
  unfold G9 at hx hok6
  rw [hxx] at hx
  rw [c4S] at hx
  by_cases hE0:E.2.2=0
  ·rw [c8W (fun h=>h hE0)]
   have e0:U8 r.1 E.2=(0,0,(E.2.1:Int)):=by rw [show E.2=(E.2.1,0) from Prod.ext rfl hE0];rfl
   rw [e0] at hx hok6
   rw [show (E.2.2 == 0)=true by rw [hE0];rfl] at hok6
   obtain ⟨hbal,hgt⟩:=hgd hE0
   obtain ⟨hm1,hm2⟩:=c77 hxx
   have hnN:(P1 E.1.1).length≤1048576:=by rw [←hbal];simp only at hsz;omega
   by_cases hk:(l9 r.1 E.2.1).kind=4
   ·rw [c8W (fun h=>h hk)]
    have b0:((l9 r.1 E.2.1).kind == 4)=true:=by rw [hk];rfl
    have hcp:=c5A E.1.1 hnN hgt
    rw [hm1] at hcp
    have hx':A7 37 [vi .i64 1] (H8 r.1) (0,0,0) [.ag [.d (x 0),.d (x 1),.d (x 2),.d (x 3),.d (x 4),.d (x 5),.d (x 6),.d (x 7),.d (x 8),.d (x 9),.d (.sl 1 (rZ E.1.2))]] (0,0,(E.2.1:Int)):=by rw [hm2];exact hx
    by_cases h5:5000<E.1.2.length
    ·rw [c8Y h5]
     exact (c81 hT hnw hx' hok6 hpk b0 (c9j (by rw [b0Z];omega))).z
    ·rw [c8W h5]
     show PxN _ (cM E.1.1) (rZ E.1.2) 0 0
     rw [hm1]
     exact c82 hT hnw hx' hok6 hpk b0 (c9d (by rw [b0Z];omega)) hcp
   ·rw [c8Y hk]
    have b0:=c9f hk
    have h4:=b3O hl2 hvi 5 (by decide)
    have h5:=okP hl2 (p:=(E.2.1,5)) hvi
    unfold G9 at h4 h5
    rw [e0,show C5 5 E.2=(E.2.1,5) by unfold C5;rw [c8W (fun h=>h hE0)],a8y r.1 E.2.1 5 (by decide)] at h4
    rw [a8y r.1 E.2.1 5 (by decide)] at h5
    exact (c80 hT hnw hx hok6 hpk b0 h4 h5).z
  ·rw [c8Y hE0]
   have e0:U8 r.1 E.2=(E.2.2,(l9 r.1 E.2.1).at_,(E.2.1:Int)):=a8y r.1 E.2.1 E.2.2 hE0
   rw [e0] at hx hok6
   rw [show (E.2.2 == 0)=false from c9f hE0] at hok6
   exact (c8z hT hnw hx hok6).z
 ·rw [c8Y h0]
  exact (c8y hT (c9f h0)).z
section
theorem b71 {w:World} {b T m:Nat} {cur:Array Value} (h:w.heap[b]?=some (.cells cur T (0,0))):(w.freeze ⟨b,m,none⟩ 1).heap[b]?=some (.cells cur T (m,m+1)):=by
 unfold World.freeze
 rw [c8W (by decide)]
 simp only [d0C,d0V,h]
 simp
theorem a8Z {w:World} {b m c:Nat} (hc:c≠b):(w.freeze ⟨b,m,none⟩ 1).heap[c]?=w.heap[c]?:=by
 unfold World.freeze
 rw [c8W (by decide)]
 simp only [d0C]
 rw [c8W (d1n hc)]
theorem b72 (w:World) (b m:Nat):(w.freeze ⟨b,m,none⟩ 1).os=w.os∧(w.freeze ⟨b,m,none⟩ 1).tape=w.tape∧(w.freeze ⟨b,m,none⟩ 1).output=w.output∧(w.freeze ⟨b,m,none⟩ 1).heap.size=w.heap.size:=by
 unfold World.freeze
 rw [c8W (by decide)]
 exact ⟨rfl,rfl,rfl,by simp⟩
theorem b73 {t:Nat} {x:Operand} {d:Option Nat} {s:S} {K:S→Prop} {k e:Nat} {z:Bool} {rows:List (List D)} (ht:f9 t=true) (hby:a2U t=true) (he:(ty t).elem=some e) (hx:s.get x=.own k) (hk:y6 s.o k=.row z e rows) (hne:rows≠[])
  (hK:K (S.put ⟨s.t,G8 s.o k .dead⟩ d (.d (.sl (ty e).sz rows)))):f7.ext (.convert t t x) d s K:=by
 rintro I0 X w0 a w o Q ho hdst hop ⟨I,g,h⟩
 obtain ⟨I2,h2,hI⟩:=h.freeze k
 have hf:b7V s.o k=G8 s.o k (.row true e rows):=by unfold b7V;rw [hk]
 rw [hf] at h2
 have hk0:=A6 hk (by simp)
 have hlt:k<s.o.length:=(c8S.1 hk0).1
 have hk2:(G8 s.o k (.row true e rows))[k]?=some (.row true e rows):=by rw [G7,c93 hlt]
 have hv:AtV I2 w g (a.eval x) (.own k):=by have:=h.get x;rw [hx] at this;exact this.mono hI (y9.refl _ _)
 have hk3:y6 (G8 s.o k (.row true e rows)) k=.row true e rows:=by
  have:∀(l:List O) (k:Nat) (o:O),l[k]?=some o→y6 l k=o:=by
   intro l
   induction l with
   | nil=>intro k o h;simp at h
   | cons y l ih=>intro k o h;cases k with|zero=>simp at h;exact h|succ k=>exact ih k o (by simpa using h)
  exact this _ _ _ hk2
 have hat:AtD I2 w (a.eval x) (.sl (ty e).sz rows):=a7u h2 hv (by show (match y6 (G8 s.o k (.row true e rows)) k with|.row true e rows=>some (D.sl (ty e).sz rows)|_=>none)=_;rw [hk3])
 obtain ⟨us,hown,hrl,hdr,hbk⟩:=h2.obj k _ hk2
 have hgv:a.eval x=g k:=hv.unown.1.trans (a1E hown)
 rcases hown.2 with ⟨_,hz⟩|⟨b,cap,cur,e0,_,hb,hnc,hcm,hcs,htake⟩
 ·exact absurd (c9t hz) hne
 obtain ⟨e',he',hke,hkk⟩:=a36 hby
 rw [he] at he'
 obtain rfl:e=e':=Option.some.inj he'
 have hrun:(convert t t (a.eval x)).run Try.prog w=.ok (a.eval x) (w.freeze ⟨b,cur.size,none⟩ 1):=by
  have hsh:w.shape? b=some (e,cur.size):=by simp [World.shape?,hb]
  rw [hgv,e0]
  simp [convert,run_underlying (H5 ht he),run_underlying (a5G hke hkk),markStringish,hsh,Result.andThen]
 obtain ⟨f1,f2,f3,f4⟩:=b72 w b cur.size
 have hgb:gbl (g k) b:=by rw [e0];rfl
 have hcell:∀i,(w.freeze ⟨b,cur.size,none⟩ 1).cell? ⟨b,i,none⟩=w.cell? ⟨b,i,none⟩:=fun i=>by
  rw [b8Q hb]
  unfold World.cell?
  rw [b71 hb]
  simp
 have h3:=h2.deadTo (k:=k) (o:=.row true e rows) hk2 (by simp) (w':=w.freeze ⟨b,cur.size,none⟩ 1) hgb f1 f2 f3 f4 (fun c hc=>a8Z hc) hcell
 have hkp:y9 I2 w (w.freeze ⟨b,cur.size,none⟩ 1):=fun b' n hb' i hi=>by
  by_cases eb:b'=b
  ·subst eb;exact hcell i
  ·exact a2T (a8Z eb) i
 have hso:(G8 s.o k (.row true e rows)).set k .dead=G8 s.o k .dead:=by rw [G7,G7,List.set_set]
 rw [hso] at h3
 unfold Oper.wp
 have hex:(execOp a.eval o).run Try.prog w=.ok (.value (a.eval x)) (w.freeze ⟨b,cur.size,none⟩ 1):=by
  unfold execOp
  rw [ho]
  simp only [Sem.run_bind,hrun,Result.andThen_ok,Sem.run_pure]
 rw [hex,Oper.upon_value,hdst]
 exact ⟨_,⟨I2,g,h3.put (.d (hat.mono (fun _ _ h=>h) hkp)) _⟩,hK⟩
section
variable {qa:_} {qb:_} {qc:_} {qd:_} {qe:_} {qg:_} {qh:_} {qi:_} {qj:_} {qk:_} {ql:_} {qm:_} {qo:_} {qp:_} {qq:_} {qt:_} {qu:_} {qv:_} {qw:_} {qx:_} {qy:_} {qz:_} {va:_} {vc:_} {vd:_} {ve:_} {vf:_} {vg:_} {vh:_} {vj:_} {vk:_} {vl:_} {vm:_} {vn:_} {vo:_} {vp:_} {vq:_} {vr:_} {vt:_} {vu:_} {vv:_} {vw:_} {vx:_} (hA:Ar.mk qa qb qc qd qe qg qh qi qj qk ql qm qo qp qq qt qu qv qw qx qy qz va vc vd ve vf vg vh vj vk vl vm vn vo vp vq vr vt vu vv vw vx=f7)
include hA
theorem c3q {t:Nat} {x:Operand} {d:Option Nat} {s:S} {K:S→Prop} (k e:Nat) {z:Bool} {rows:List (List D)} (ht:f9 t=true) (hby:a2U t=true) (he:(ty t).elem=some e) (hx:s.get x=.own k) (hk:y6 s.o k=.row z e rows) (hne:rows≠[])
  (hK:K (S.put ⟨s.t,G8 s.o k .dead⟩ d (.d (.sl (ty e).sz rows)))):vv (.convert t t x) d s K:=c4x hA (b73 ht hby he hx hk hne hK)
end
end
end Go.Proofs.Ytahpnackkmbmgaa.Vm
end
section
namespace Go.Proofs.Ytahpnackkmbmgaa.Vm
open Go.RowKit Go.ChangeShapes Go.WideShapes Go.Deep
section
inductive Deep (P:Program):Nat→List D→Nat→Prop
 | bool {t:Nat} (b:Bool) (h:P.underlying t=some .bool):Deep P t [.sc (.bool b)] 1
 | int {t:Nat} {k:IntKind} (n:Int) (h:P.underlying t=some (.int k)) (hw:(Lit.int k n).wf=true):Deep P t [.sc (.int k n)] 1
 | str {t:Nat} (s:ByteArray) (h:P.underlying t=some .string) (hs:s.size≤maxLen):Deep P t [.sc (.string s)] (s.size+1)
 | sl {t e:Nat} (rows:List (List D)) (ms:List Nat) (h:P.underlying t=some (.slice e)) (hl:ms.length=rows.length) (hb:rows.length≤maxLen)
   (hr:∀(i:Nat) (r:List D) (m:Nat),rows[i]?=some r→ms[i]?=some m→Deep P e r m):Deep P t [.sl (P.cellsOf e) rows] (ms.sum+1)
 | st {t:Nat} {fs:Array Field} (dss:List (List D)) (ms:List Nat) (h:P.underlying t=some (.struct fs)) (h1:dss.length=fs.size) (h2:ms.length=fs.size)
   (hf:∀(i:Nat) (f:Field) (ds:List D) (m:Nat),fs[i]?=some f→dss[i]?=some ds→ms[i]?=some m→Deep P f.type ds m):Deep P t dss.flatten (ms.sum+1)
def a2E (P:Program) (t:Nat) (r:R) (m:Nat):Prop:=match P.underlying t,r with
 | some (.struct _),.ag xs=>Deep P t xs m
 | some (.struct _),.one _=>False
 | _,.one x=>Deep P t [x] m
 | _,.ag _=>False
section
variable {P:Program} {t:Nat} {ds:List D} {m:Nat}
theorem Deep.unint {k:IntKind} (h:Deep P t ds m) (hu:P.underlying t=some (.int k)):∃n,ds=[.sc (.int k n)]∧(Lit.int k n).wf=true∧m=1:=by
 cases h with
 | int n h hw=>rw [hu] at h;cases h;exact ⟨n,rfl,hw,rfl⟩
 | _=>simp_all
theorem Deep.unbool (h:Deep P t ds m) (hu:P.underlying t=some .bool):∃b,ds=[.sc (.bool b)]∧m=1:=by
 cases h with
 | bool b h=>exact ⟨b,rfl,rfl⟩
 | _=>simp_all
theorem Deep.unstr (h:Deep P t ds m) (hu:P.underlying t=some .string):∃s:ByteArray,ds=[.sc (.string s)]∧s.size≤maxLen∧m=s.size+1:=by
 cases h with
 | str s h hs=>exact ⟨s,rfl,hs,rfl⟩
 | _=>simp_all
theorem Deep.unsl {e:Nat} (h:Deep P t ds m) (hu:P.underlying t=some (.slice e)):∃(rows:List (List D)) (ms:List Nat),ds=[.sl (P.cellsOf e) rows]∧ms.length=rows.length∧rows.length≤maxLen∧m=ms.sum+1 ∧
  ∀(i:Nat) (r:List D) (m:Nat),rows[i]?=some r→ms[i]?=some m→Deep P e r m:=by
 cases h with
 | sl rows ms h hl hb hr=>rw [hu] at h;cases h;exact ⟨rows,ms,rfl,hl,hb,rfl,hr⟩
 | _=>simp_all
theorem a2E.one {r:R} (h:a2E P t r m) (hu:∀fs,P.underlying t≠some (.struct fs)):∃x,r=.one x∧Deep P t [x] m:=by
 unfold a2E at h
 split at h
 ·exact absurd (by assumption) (hu _)
 ·exact h.elim
 ·exact ⟨_,rfl,h⟩
 ·exact h.elim
end
def a7k (P:Program):List Field→Nat→Nat→Bool
 | [],n,c=>Nat.beq n c
 | f::fs,n,c=>Nat.beq f.offset n && a7k P fs (n+P.cellsOf f.type) c
def b15 (P:Program) (L:List Nat) (t:Nat):Bool:=match P.underlying t with
 | some .bool=>true
 | some (.int _)=>true
 | some .string=>true
 | some (.slice e)=>L.contains e && Nat.blt 0 (P.cellsOf e)
 | some (.struct fs)=>(fs.toList.all fun f=>L.contains f.type) && a7k P fs.toList 0 (P.cellsOf t)
 | _=>false
def dataOk (P:Program) (L:List Nat):Bool:=L.all (b15 P L)
theorem b16 {β:Type}:∀ {n:Nat} {p:Nat→β→Prop},(∀i,i<n→∃b,p i b)→∃l:List β,l.length=n∧∀(i:Nat) b,l[i]?=some b→p i b
 | 0,p,h=>⟨[],rfl,fun i b hi=>by simp at hi⟩
 | n+1,p,h=>by
  obtain ⟨b0,h0⟩:=h 0 (by omega)
  obtain ⟨l,hl,hp⟩:=b16 (n:=n) (p:=fun i b=>p (i+1) b) fun i hi=>h (i+1) (by omega)
  refine ⟨b0::l,by simp [hl],fun i b hi=>?_⟩
  cases i with
  | zero=>simp at hi;subst hi;exact h0
  | succ i=>exact hp i b (by simpa using hi)
theorem a6p {I:Nat→Nat→Prop} {w:World}:∀ {css:List (List Value)} {dss:List (List D)},css.length=dss.length→(∀(i:Nat) cs ds,css[i]?=some cs→dss[i]?=some ds→B0 I w cs ds)→B0 I w css.flatten dss.flatten
 | [],[],_,_=>B0.nil I w
 | c::css,d::dss,hl,h=>by
  rw [c9F,c9F]
  exact (h 0 c d rfl rfl).append (a6p (by simpa using hl) fun i cs ds h1 h2=>h (i+1) cs ds (by simpa using h1) (by simpa using h2))
 | [],_::_,hl,_=>by simp at hl
 | _::_,[],hl,_=>by simp at hl
theorem a9a {P:Program} {cs:List Value}:∀(fs:List Field) (n c:Nat),a7k P fs n c=true→cs.length=c→cs.drop n=(fs.map fun f=>(cs.drop f.offset).take (P.cellsOf f.type)).flatten
 | [],n,c,h,hl=>by
  have:n=c:=d1a h
  rw [c9R (by omega)];rfl
 | f::fs,n,c,h,hl=>by
  rw [a7k,c8Z] at h
  have h1:f.offset=n:=d1a h.1
  rw [c9m,c9F,←a9a fs _ c h.2 hl,h1,←List.drop_drop,d0a]
theorem a9b {H:Type}:∀ {ms:List Nat} {els:List (DataW H)},ms.length=els.length→(∀(i m:Nat) y,ms[i]?=some m→els[i]?=some y→m≤Rows.uptoBulk y)→ms.sum≤Rows.uptoBulkAll els
 | [],[],_,_=>by simp
 | m::ms,y::els,hl,h=>by
  have h1:=h 0 m y rfl rfl
  have h2:=a9b (ms:=ms) (els:=els) (by simpa using hl) fun i m y hm hy=>h (i+1) m y (by simpa using hm) (by simpa using hy)
  simp only [d1g,Rows.uptoBulkAll]
  omega
 | [],_::_,hl,_=>by simp at hl
 | _::_,[],hl,_=>by simp at hl
def Low (w:World) (b _h:Nat):Prop:=b<w.heap.size
section
variable {H:Type} {enc:TypeId×Value→H} {P:Program} {w:World} {base:Nat} {spare:Nat→Bool} {held:Bool}
theorem a6q {L:List Nat} (hL:dataOk P L=true):∀(fuel t:Nat) (cs:List Value) (x:DataW H×List MemPlace),t∈L→DataW.trod enc P w base spare held fuel t cs=some x→∃ds m,B0 (Low w) w cs ds∧Deep P t ds m∧m≤Rows.uptoBulk x.1
 | 0,t,cs,x,ht,h=>by simp [DataW.trod] at h
 | fuel+1,t,cs,x,ht,h=>by
  have hk:=c9s.1 hL t ht
  unfold b15 at hk
  split at hk
  ·rename_i e
   obtain ⟨b,rfl,rfl⟩:=DataW.trod_bool e h
   exact ⟨_,_,B0.cons (.sc _ rfl) (B0.nil _ _),.bool b e,by simp [Rows.uptoBulk]⟩
  ·rename_i k e
   obtain ⟨n,rfl,rfl,hw⟩:=DataW.trod_int e h
   exact ⟨_,_,B0.cons (.sc _ rfl) (B0.nil _ _),.int n e hw,by simp [Rows.uptoBulk]⟩
  ·rename_i e
   obtain ⟨s,rfl,rfl,hs⟩:=DataW.trod_string e h
   refine ⟨_,_,B0.cons (.sc _ rfl) (B0.nil _ _),.str s e hs,?_⟩
   have e2:s.data.toList.length=s.size:=by rw [d0q];rfl
   simp only [Rows.uptoBulk]
   omega
  ·rename_i e he
   simp only [c8Z,c9W,d0d] at hk
   rcases DataW.trod_slice he h with ⟨rfl,rfl⟩|⟨a,len,cap,elems,rest,n,hfu,rfl,rfl,hb,hl,hm,hlen,hel,_,_⟩
   ·exact ⟨_,_,B0.cons (.nil none 0 (P.cellsOf e)) (B0.nil _ _),.sl [] [] he rfl (c95 _) (fun i r m hr=>by simp at hr),by simp [Rows.uptoBulk]⟩
   ·obtain rfl:n=fuel:=by omega
    have each:∀i,i<len→∃q:List Value×List D×Nat,(w.cells? base (a.add (i * P.cellsOf e)) (P.cellsOf e)=some q.1)∧B0 (Low w) w q.1 q.2.1∧Deep P e q.2.1 q.2.2∧∃y,elems[i]?=some y∧q.2.2≤Rows.uptoBulk y.1:=by
     intro i hi
     have h1:=hel i hi
     have hei:elems[i]?=some (elems[i]'(by omega)):=c8T (by omega)
     rw [hei,Option.bind_eq_some_iff] at h1
     obtain ⟨cs',hc,ht'⟩:=h1
     obtain ⟨ds,m,h2,h3,h4⟩:=a6q hL n e cs' _ hk.1 ht'
     exact ⟨(cs',ds,m),hc,h2,h3,_,hei,h4⟩
    obtain ⟨l,hll,hp⟩:=b16 each
    have hmap:∀ {β:Type} (f:List Value×List D×Nat→β) (i:Nat) (b:β),(l.map f)[i]?=some b→∃q,l[i]?=some q∧f q=b:=fun f i b hi=>by
     rw [c9v,c9Z] at hi
     exact hi
    have hrl:(l.map fun q=>q.2.1).length=len:=by rw [c9r,hll]
    have hcl:∀r∈l.map (fun q=>q.1),r.length=P.cellsOf e:=fun r hr=>by
     obtain ⟨i,hi⟩:=c9A.1 hr
     obtain ⟨q,hq,rfl⟩:=hmap _ i r hi
     exact (World.cells?_some (hp i q hq).1).2.1
    have hdl:∀r∈l.map (fun q=>q.2.1),r.length=P.cellsOf e:=fun r hr=>by
     obtain ⟨i,hi⟩:=c9A.1 hr
     obtain ⟨q,hq,rfl⟩:=hmap _ i r hi
     rw [←(hp i q hq).2.1.1]
     exact (World.cells?_some (hp i q hq).1).2.1
    have hD:Deep P t [.sl (P.cellsOf e) (l.map fun q=>q.2.1)] ((l.map fun q=>q.2.2).sum+1):=by
     refine .sl _ _ he (by simp) (by rw [hrl];omega) fun i r m hr hm=>?_
     obtain ⟨q,hq,rfl⟩:=hmap _ i r hr
     obtain ⟨q',hq',rfl⟩:=hmap _ i m hm
     rw [hq] at hq'
     cases hq'
     exact (hp i q hq).2.2.1
    have hB:(l.map fun q=>q.2.2).sum+1≤Rows.uptoBulk (DataW.slice (elems.map (·.1)) (rest.map (·.1))):=by
     have:=a9b (ms:=l.map fun q=>q.2.2) (els:=elems.map (·.1)) (by simp [hll,hlen]) fun i m y hm hy=>by
      obtain ⟨q,hq,rfl⟩:=hmap _ i m hm
      obtain ⟨y',hy',h4⟩:=(hp i q hq).2.2.2
      rw [c9v,hy'] at hy
      cases hy
      exact h4
     simp only [Rows.uptoBulk]
     omega
    refine ⟨_,_,B0.cons ?_ (B0.nil _ _),hD,hB⟩
    by_cases h0:len=0
    ·subst h0
     rw [c9t hll]
     exact .nil _ _ _
    obtain ⟨b,off,spot⟩:=a
    obtain ⟨q0,hq0⟩:∃q,l[0]?=some q:=⟨_,c8T (by omega)⟩
    have hc0:=(World.cells?_some (hp 0 q0 hq0).1).2
    have hq00:q0.1[0]?=some (q0.1[0]'(by omega)):=c8T (by omega)
    have hcell0:=(hc0.2 0 hk.2).trans hq00
    have hspot:spot=none:=by
     have:=World.cell?_spot hcell0
     simpa [Addr.add] using this
    subst hspot
    have hblk:b<w.heap.size:=by
     have:=World.block_lt_of_cell? w _ hcell0
     simpa [Addr.add] using this
    have add0:∀o j,(⟨b,o,none⟩:Addr).add j=⟨b,o+j,none⟩:=fun o j=>by
     unfold Addr.add
     by_cases hj:j=0
     ·subst hj;rfl
     ·simp [hj]
    have hus:(l.map fun q=>q.1).flatten.length=len * P.cellsOf e:=by rw [a1k hcl,c9r,hll]
    have hsl:=AtD.sl (I:=Low w) (w:=w) b off cap (P.cellsOf e) (l.map fun q=>q.2.1) (l.map fun q=>q.1).flatten (by rw [hrl];exact hl) ⟨_,c9c _,hblk⟩ hdl (by rw [hus,hrl]) (fun i u hu=>?_) (fun i u d hu hd=>?_)
    ·rw [hrl] at hsl
     exact hsl
    ·have hi:i<len * P.cellsOf e:=by rw [←hus];exact (c8S.1 hu).1
     have hq:i / P.cellsOf e<len:=(Nat.div_lt_iff_lt_mul hk.2).2 hi
     have hr:i % P.cellsOf e<P.cellsOf e:=Nat.mod_lt _ hk.2
     have ei:i / P.cellsOf e * P.cellsOf e+i % P.cellsOf e=i:=by rw [d0s];exact Nat.div_add_mod i _
     obtain ⟨q,hqq⟩:∃q,l[i / P.cellsOf e]?=some q:=⟨_,c8T (by omega)⟩
     have hcq:=(World.cells?_some (hp _ q hqq).1).2.2 _ hr
     have hfl:=a00 hcl (i:=i / P.cellsOf e) (j:=i % P.cellsOf e) (r:=q.1) (by rw [c9v,hqq];rfl) hr
     rw [ei,hu] at hfl
     rw [←hfl,add0,add0,c9S,ei] at hcq
     exact hcq
    ·exact (a6p (I:=Low w) (w:=w) (css:=l.map fun q=>q.1) (dss:=l.map fun q=>q.2.1) (by simp) fun i cs ds h1 h2=>by
      obtain ⟨q,hq,rfl⟩:=hmap _ i cs h1
      obtain ⟨q',hq',rfl⟩:=hmap _ i ds h2
      rw [hq] at hq'
      cases hq'
      exact (hp i q hq).2.1).2 i u d hu hd
  ·rename_i fs he
   simp only [c8Z,c9s,c9W] at hk
   obtain ⟨xs,n,hfu,rfl,hcl,hxl,hf⟩:=DataW.trod_struct he h
   obtain rfl:n=fuel:=by omega
   have each:∀i,i<fs.size→∃q:List D×Nat,∀f,fs[i]?=some f→B0 (Low w) w ((cs.drop f.offset).take (P.cellsOf f.type)) q.1∧Deep P f.type q.1 q.2∧∃y,xs[i]?=some y∧q.2≤Rows.uptoBulk y.1:=by
    intro i hi
    have hfi:fs[i]?=some fs[i]:=c9P hi
    have hxi:xs[i]?=some (xs[i]'(by omega)):=c8T (by omega)
    have h1:=hf i _ hfi
    rw [hxi] at h1
    obtain ⟨ds,m,h2,h3,h4⟩:=a6q hL n _ _ _ (hk.1 _ (Array.getElem_mem_toList ..)) h1
    refine ⟨(ds,m),fun f hff=>?_⟩
    rw [hfi] at hff
    cases hff
    exact ⟨h2,h3,_,hxi,h4⟩
   obtain ⟨l,hll,hp⟩:=b16 each
   have hmap:∀ {β:Type} (f:List D×Nat→β) (i:Nat) (b:β),(l.map f)[i]?=some b→∃q,l[i]?=some q∧f q=b:=fun f i b hi=>by
    rw [c9v,c9Z] at hi
    exact hi
   refine ⟨(l.map (·.1)).flatten,(l.map (·.2)).sum+1,?_,.st _ _ he (by simp [hll]) (by simp [hll]) fun i f ds m h1 h2 h3=>?_,?_⟩
   ·have hcut:=a9a fs.toList 0 _ hk.2 hcl
    rw [d07] at hcut
    rw [hcut]
    refine a6p (by simp [hll]) fun i c d h1 h2=>?_
    rw [c9v,c9Z] at h1
    obtain ⟨f,hfi,rfl⟩:=h1
    obtain ⟨q,hq,rfl⟩:=hmap _ i d h2
    exact (hp i q hq f (by simpa using hfi)).1
   ·obtain ⟨q,hq,rfl⟩:=hmap _ i ds h2
    obtain ⟨q',hq',rfl⟩:=hmap _ i m h3
    rw [hq] at hq'
    cases hq'
    exact (hp i q hq f h1).2.1
   ·have:=a9b (ms:=l.map (·.2)) (els:=xs.map (·.1)) (by simp [hll,hxl]) fun i m y hm hy=>by
     obtain ⟨q,hq,rfl⟩:=hmap _ i m hm
     have hlt:i<fs.size:=by rw [←hll];exact (c8S.1 hq).1
     obtain ⟨y',hy',h4⟩:=(hp i q hq _ (c9P hlt)).2.2
     rw [c9v,hy'] at hy
     cases hy
     exact h4
    simp only [Rows.uptoBulk]
    omega
  ·cases hk
theorem open_arg {L:List Nat} (hL:dataOk P L=true) {t:Nat} {v:Value} {d:DataW H} {ps:List MemPlace} {rc:Reach} {b0:Nat} (ht:L.contains t=true) (hv:Value.okWide P w rc b0 t v) (h:DataW.Trod enc P w base spare held t v d ps) :
  ∃r m,AtR (Low w) w v r∧a2E P t r m∧m≤Rows.uptoBulk d:=by
 rw [c9W] at ht
 obtain ⟨fuel,hf⟩:=h
 obtain ⟨ds,m,h1,h2,h3⟩:=a6q hL fuel t _ _ ht hf
 have hk:=c9s.1 hL t ht
 unfold b15 at hk
 split at hk
 ·rename_i e
  obtain ⟨b,rfl⟩:=okWide_bool e hv
  obtain ⟨b',rfl,rfl⟩:=h2.unbool e
  obtain ⟨u,us',e2,h4,_⟩:=h1.uncons
  simp [Value.cells] at e2
  rw [←e2.1] at h4
  exact ⟨.one _,_,h4,by unfold a2E;rw [e];exact h2,h3⟩
 ·rename_i k e
  obtain ⟨b,rfl⟩:=okWide_int e hv
  obtain ⟨b',rfl,_,rfl⟩:=h2.unint e
  obtain ⟨u,us',e2,h4,_⟩:=h1.uncons
  simp [Value.cells] at e2
  rw [←e2.1] at h4
  exact ⟨.one _,_,h4,by unfold a2E;rw [e];exact h2,h3⟩
 ·rename_i e
  obtain ⟨b,rfl⟩:=okWide_string e hv
  obtain ⟨b',rfl,_,rfl⟩:=h2.unstr e
  obtain ⟨u,us',e2,h4,_⟩:=h1.uncons
  simp [Value.cells] at e2
  rw [←e2.1] at h4
  exact ⟨.one _,_,h4,by unfold a2E;rw [e];exact h2,h3⟩
 ·rename_i el e
  obtain ⟨a,len,cap,rfl⟩:=okWide_slice e hv
  obtain ⟨rows,ms,rfl,_,_,rfl,_⟩:=h2.unsl e
  obtain ⟨u,us',e2,h4,_⟩:=h1.uncons
  simp [Value.cells] at e2
  rw [←e2.1] at h4
  exact ⟨.one _,_,h4,by unfold a2E;rw [e];exact h2,h3⟩
 ·rename_i fs e
  obtain ⟨cs,rfl,_⟩:=okWide_struct e hv
  exact ⟨.ag ds,m,⟨cs.toList,by simp,h1⟩,by unfold a2E;rw [e];exact h2,h3⟩
 ·cases hk
end
theorem law_true {f:Nat} {rs:List R} (h:A0 f rs [.one (.sc (.bool true))]) {w:World} {args:List Value} (hat:a4h (Low w) w args rs) (hT:b3r (fun _=>False) w:=by exact fun _ h=>nomatch h):Calls Try.prog f args.toArray w fun e w'=>e=.returned (.bool true)∧Below w.heap.size w w':=by
 refine (h.2 (Low w) w args ⟨fun _ _ h=>h,hT⟩ hat).mono ?_
 rintro e w' ⟨v,rfl,hv,hb⟩
 cases hv
 exact ⟨rfl,hb⟩
end
end Go.Proofs.Ytahpnackkmbmgaa.Vm
end
section
namespace Go.Proofs.Ytahpnackkmbmgaa.Vm
open Go.RowKit
set_option maxRecDepth 100000
set_option maxHeartbeats 4000000
theorem b3h {P:Program} {t:Nat} {k:IntKind} {r:R} {m:Nat} (ht:P.underlying t=some (.int k)) (h:a2E P t r m):∃n,r=.one (.sc (.int k n))∧(Lit.int k n).wf=true:=by
 obtain ⟨x,rfl,h2⟩:=h.one (fun fs=>by rw [ht];simp)
 obtain ⟨n,e,hw,_⟩:=h2.unint ht
 cases e
 exact ⟨n,rfl,hw⟩
def l7:List UInt8:=[102,32,120,46,97,32,43,32,49]
def bx7:List (List D):=[[.sc (.int .u8 102)],[.sc (.int .u8 32)],[.sc (.int .u8 120)],[.sc (.int .u8 46)],[.sc (.int .u8 97)],[.sc (.int .u8 32)],[.sc (.int .u8 43)],[.sc (.int .u8 32)],[.sc (.int .u8 49)]]
def tx7:Tm:=.mk 40 ⟨#[43]⟩ ⟨#[]⟩ 0 false (.mk 0 ⟨#[]⟩ 0 []) [.mk 37 ⟨#[]⟩ ⟨#[]⟩ 0 false (.mk 0 ⟨#[]⟩ 0 []) [.mk 32 ⟨#[102]⟩ ⟨#[]⟩ 0 false (.mk 0 ⟨#[]⟩ 0 []) [],.mk 43 ⟨#[97]⟩ ⟨#[]⟩ 0 false (.mk 0 ⟨#[]⟩ 0 []) [.mk 32 ⟨#[120]⟩ ⟨#[]⟩ 0 false (.mk 0 ⟨#[]⟩ 0 []) []]],.mk 33 ⟨#[]⟩ ⟨#[]⟩ 1 false (.mk 0 ⟨#[]⟩ 0 []) []]
def cx7:List D:=[.sc (.int .u8 40),.sc (.string ⟨#[43]⟩),.sc (.string ⟨#[]⟩),.sc (.int .i64 0),.sc (.bool false),.sc (.int .u8 0),.sc (.string ⟨#[]⟩),.sc (.int .i64 0),.sl 4 [],.sl 10 [[.sc (.int .u8 37),.sc (.string ⟨#[]⟩),.sc (.string ⟨#[]⟩),.sc (.int .i64 0),.sc (.bool false),.sc (.int .u8 0),.sc (.string ⟨#[]⟩),.sc (.int .i64 0),.sl 4 [],.sl 10 [[.sc (.int .u8 32),.sc (.string ⟨#[102]⟩),.sc (.string ⟨#[]⟩),.sc (.int .i64 0),.sc (.bool false),.sc (.int .u8 0),.sc (.string ⟨#[]⟩),.sc (.int .i64 0),.sl 4 [],.sl 10 []],[.sc (.int .u8 43),.sc (.string ⟨#[97]⟩),.sc (.string ⟨#[]⟩),.sc (.int .i64 0),.sc (.bool false),.sc (.int .u8 0),.sc (.string ⟨#[]⟩),.sc (.int .i64 0),.sl 4 [],.sl 10 [[.sc (.int .u8 32),.sc (.string ⟨#[120]⟩),.sc (.string ⟨#[]⟩),.sc (.int .i64 0),.sc (.bool false),.sc (.int .u8 0),.sc (.string ⟨#[]⟩),.sc (.int .i64 0),.sl 4 [],.sl 10 []]]]]],[.sc (.int .u8 33),.sc (.string ⟨#[]⟩),.sc (.string ⟨#[]⟩),.sc (.int .i64 1),.sc (.bool false),.sc (.int .u8 0),.sc (.string ⟨#[]⟩),.sc (.int .i64 0),.sl 4 [],.sl 10 []]]]
theorem c5F:cM tx7=cx7:=by kernel_rfl
theorem c5G:rU l7=bx7:=by kernel_rfl
theorem c79:pxW l7=(tx7,[0,0,0,2,2,8],0,0):=by kernel_rfl
theorem b4v:∃(K P:List (List D)) (x1 x2 x3 x4 x5 x6 x7 x8 x9:D),A0 17 [.one (.sl 1 bx7)] [.ag [.sc (.int .u8 40),.sc (.string ⟨#[43]⟩),.sc (.string ⟨#[]⟩),.sc (.int .i64 0),.sc (.bool false),.sc (.int .u8 0),.sc (.string ⟨#[]⟩),.sc (.int .i64 0),.sl 4 [],.sl 10 K],.one (.sl 1 P),.one (.sc (.int .i64 0)),.one (.sc (.int .u8 0))]∧K.length=2∧K[0]?=some [.sc (.int .u8 37),x1,x2,x3,x4,x5,x6,x7,x8,x9]∧P.length=6:=by
 have h:=c3U l7 (by decide)
 rw [c79,c5G] at h
 have h:PxN bx7 (cM tx7) (rZ [0,0,0,2,2,8]) 0 0:=h
 rw [c5F] at h
 exact ⟨_,_,_,_,_,_,_,_,_,_,_,h,rfl,rfl,rfl⟩
theorem c0T:A0 16 [] [.one (.sc (.bool true))]:=by
 obtain ⟨K,P,x1,x2,x3,x4,x5,x6,x7,x8,x9,h1,hK,hg,hP⟩:=b4v
 unfold bx7 at h1
 refine sp9 Try.func16 rfl ?_;intro qa _ _ _ _ _ _ _ _ qk _ _ _ _ _ _ _ _ _ _ _ _ va vc;intros;rename_i hA
 obtain ⟨e1,e2,e3,e4,e5,e6,e7,e8,e9⟩:=m6 hA
 obtain ⟨r1,r2,r3,r4⟩:=C7 hA
 cbv
 repeat ((with_reducible apply f8 hA);cbv)
 refine C2 hA false ?_
 cbv
 refine a2x hA true ?_
 cbv
 refine c3q hA 0 5 (by kernel_rfl) (by kernel_rfl) rfl rfl rfl (by simp) ?_
 cbv
 have q1:qk (qa .i64 0) 0=true:=by rw [e9,e1];rfl
 have q2:qk (va K) 2=true:=by rw [e9,r1,hK];rfl
 have q3:qk (va P) 6=true:=by rw [e9,r1,hP];rfl
 have q4:vc K 0=some [.sc (.int .u8 37),x1,x2,x3,x4,x5,x6,x7,x8,x9]:=by rw [r2,c8Y (by omega)];exact hg
 iterate 2 (try cbv;repeat ((first|with_reducible apply f8 hA|rw [q1]|rw [q2]|rw [q3]|rw [q4]|refine i9 hA _ h1 rfl ?_|refine j5 hA _ h1 ?_|rw [ebr hA]);cbv))
theorem a6r (b:List UInt8):∀m,T8 b m++b=T8 b (m+1)
 | 0=>by simp [T8]
 | m+1=>by rw [T8,c90,a6r b m];rfl
abbrev opR:List (List D):=[[.sc (.string ⟨⟨[40]⟩⟩)],[.sc (.string ⟨⟨[123,97,61]⟩⟩)],[.sc (.string ⟨⟨[64,97,32]⟩⟩)],[.sc (.string ⟨⟨[102,117,110,32,120,61,62]⟩⟩)],[.sc (.string ⟨⟨[105,102,32,116,114,117,101,32,116,104,101,110,32,49,32,101,108,115,101,32]⟩⟩)],[.sc (.string ⟨⟨[108,101,116,32,120,61,49,32,105,110,32]⟩⟩)],[.sc (.string ⟨⟨[99,97,115,101,32]⟩⟩)],[.sc (.string ⟨⟨[94,98,32]⟩⟩)]]
abbrev shR:List (List D):=[[.sc (.string ⟨⟨[41]⟩⟩)],[.sc (.string ⟨⟨[125]⟩⟩)],[.sc (.string ⟨⟨[]⟩⟩)],[.sc (.string ⟨⟨[]⟩⟩)],[.sc (.string ⟨⟨[]⟩⟩)],[.sc (.string ⟨⟨[]⟩⟩)],[.sc (.string ⟨⟨[32,111,102,32,101,110,100]⟩⟩)],[.sc (.string ⟨⟨[]⟩⟩)]]
abbrev fsR:List (List D):=[[.sc (.int .i64 0)],[.sc (.int .i64 0)],[.sc (.int .i64 0)],[.sc (.int .i64 0)],[.sc (.int .i64 (-17))],[.sc (.int .i64 (-5))],[.sc (.int .i64 0)],[.sc (.int .i64 0)]]
theorem b74 (k:Nat) (hk:k<8):∃S E:ByteArray,f7.get opR (k:Int)=some [.sc (.string S)]∧btl S=opU k∧f7.get shR (k:Int)=some [.sc (.string E)]∧btl E=shU k∧f7.get fsR (k:Int)=some [.sc (.int .i64 (b70 k))]∧(opU k).length≤20∧(shU k).length≤20∧-17≤b70 k∧b70 k≤0:=by
 match k,hk with
 | 0,_|1,_|2,_|3,_|4,_|5,_|6,_|7,_=>exact ⟨_,_,rfl,rfl,rfl,rfl,rfl,by decide,by decide,by decide,by decide⟩
theorem c84 (n kd:Int) (hn:0≤n∧n≤65535) (hkd:0≤kd∧kd≤255):A0 5 [.one (.sc (.int .u16 n)),.one (.sc (.int .u8 kd))] [.one (.sc (.bool true))]:=by
 have hal:=c0T
 obtain ⟨k,hk0,hk⟩:∃k:Nat,(k:Int)=kd.tmod 8∧k<8:=⟨(kd % 8).toNat,by rw [Int.tmod_eq_emod_of_nonneg hkd.1];omega,by omega⟩
 obtain ⟨m,hm0,hm⟩:∃m:Nat,(m:Int)=n.tmod 260∧m<260:=⟨(n % 260).toNat,by rw [Int.tmod_eq_emod_of_nonneg hn.1];omega,by omega⟩
 obtain ⟨S,E,gS,hS,gE,hE,gF,hl1,hl2,hf1,hf2⟩:=b74 k hk
 have hpx:=c3p k m hk hm
 have hlen:(a10 (opU k) (shU k) m).length≤65536:=by
  unfold a10
  rw [c8U,c9a,a2j,a2j]
  have h1:=d0F (show m≤260 by omega) hl1
  have h2:=d0F (show m≤260 by omega) hl2
  generalize m * (opU k).length=x at *
  generalize m * (shU k).length=y at *
  omega
 have hP:=c3U (a10 (opU k) (shU k) m) hlen
 unfold PxN at hP
 obtain ⟨pc,hpc⟩:∃pc,pc=(pxW (a10 (opU k) (shU k) m)).2.2:=⟨_,rfl⟩
 rw [←hpc] at hP hpx
 obtain ⟨d0,d1,d2,d3,d4,d5,d6,d7,d8,d9,hd⟩:=a8x (pxW (a10 (opU k) (shU k) m)).1
 rw [hd] at hP
 generalize rZ (pxW (a10 (opU k) (shU k) m)).2.1=X at *
 clear hpc hd hlen
 obtain ⟨f,hf⟩:∃f,f=b70 k:=⟨_,rfl⟩
 rw [←hf] at gF hpx hf1 hf2
 have hSl:(S.size:Int)=((opU k).length:Int):=by rw [←L4,hS]
 obtain ⟨L,hL⟩:∃L:Int,L=((opU k).length:Int):=⟨_,rfl⟩
 rw [←hL] at hSl hpx
 obtain ⟨z,hz⟩:∃z:Int,z=(k:Int):=⟨_,rfl⟩
 obtain ⟨M,hM⟩:∃M:Int,M=(m:Int):=⟨_,rfl⟩
 rw [←hz] at gS gE gF hk0
 rw [←hM] at hm0
 obtain ⟨inv,hi⟩:∃inv:ByteArray×ByteArray×Int→Prop,inv=fun x=>∃j:Nat,x.2.2=(j:Int)∧j≤m∧btl x.1=T8 (opU k) j∧btl x.2.1=T8 (shU k) j:=⟨_,rfl⟩
 have hi0:inv (⟨⟨[]⟩⟩,⟨⟨[]⟩⟩,0):=by rw [hi];exact ⟨0,rfl,c95 _,rfl,rfl⟩
 refine sp9 Try.func5 rfl ?_;intro qa qb qc qd _ qg _ qi qj qk _ _ _ _ qq _ qu _ _ _ qy _ _ vc;intros;rename_i hA
 obtain ⟨e1,e2,e3,e4,e5,e6,e7,e8,e9⟩:=m6 hA
 obtain ⟨s1,s2,s3,s4,s5,s6,-⟩:=I3 hA
 obtain ⟨-,f2⟩:=b0N hA
 have q0:qg kd 8=z:=by rw [e6];exact hk0.symm
 have q1:qg n 260=M:=by rw [e6];exact hm0.symm
 have q2:qa .i64 z=z:=ewp hA (IntWalk.i64_in _ (by omega))
 have q3:qa .i64 M=M:=ewp hA (IntWalk.i64_in _ (by omega))
 iterate 2 (try cbv;repeat ((first|with_reducible apply f8 hA|rw [q0]|rw [q1]|rw [q2]|rw [q3]|refine i9 hA _ hal rfl ?_|refine j5 hA _ hal ?_|refine C2 hA true ?_|refine b2k hA (by decide) ?_);cbv))
 try simp (maxSteps:=4000000) only [nc] at *
 refine o7 hA (γ:=ByteArray×ByteArray×Int) (fun x=>[(9,vs x.1),(10,vs x.2.1),(11,vi .i64 x.2.2)]) (fun _=>[]) inv (fun x=>m - x.2.2.toNat) (⟨⟨[]⟩⟩,⟨⟨[]⟩⟩,0) hi0 ?_ ?_
 ·cbv
 ·intro x hinv
  obtain ⟨s,e,i⟩:=x
  cbv
  repeat ((with_reducible apply f8 hA);cbv)
  try simp (maxSteps:=4000000) only [nc] at *
  rw [hi] at hinv
  obtain ⟨j,hij,hj,hs,he⟩:=hinv
  replace hij:i=(j:Int):=hij
  replace hs:btl s=T8 (opU k) j:=hs
  replace he:btl e=T8 (shU k) j:=he
  have zs:s.size≤5200:=by
   rw [←L4,hs,a2j]
   exact d0k (d0F (show j≤260 by omega) hl1) (by decide)
  have ze:e.size≤5200:=by
   rw [←L4,he,a2j]
   exact d0k (d0F (show j≤260 by omega) hl2) (by decide)
  have zS:S.size≤20:=by rw [←L4,hS];exact hl1
  have zE:E.size≤20:=by rw [←L4,hE];exact hl2
  by_cases h9:j<m
  ·have z1:s.size+S.size≤4611686018427387904:=by omega
   have z2:e.size+E.size≤4611686018427387904:=by omega
   have p0:qi i M=true:=el hA (c9j (by omega))
   have g1:=eg hA gS
   have g2:=eg hA gE
   have p1:qq s S=s++S:=by rw [s4]
   have p2:qq e E=e++E:=by rw [s4]
   have p3:qa .i64 (qb i 1)=((j+1:Nat):Int):=ew hA (by rw [IntWalk.i64_in _ (by omega)];omega)
   have hi2:inv (s++S,e++E,((j+1:Nat):Int)):=by
    rw [hi]
    exact ⟨j+1,rfl,h9,by show btl (s++S)=_;rw [a7c,hs,hS,a6r],by show btl (e++E)=_;rw [a7c,he,hE,a6r]⟩
   have hmu:m - ((j+1:Nat):Int).toNat<m - i.toNat:=by omega
   generalize ((j+1:Nat):Int)=i1 at *
   generalize s++S=s' at *
   generalize e++E=e' at *
   iterate 2 (try cbv;repeat ((first|with_reducible apply f8 hA|rw [p0]|rw [p1]|rw [p2]|rw [p3]|rw [g1]|rw [g2]|refine a3A hA z1 ?_|refine a3A hA z2 ?_);cbv))
   try simp (maxSteps:=4000000) only [nc] at *
   refine ⟨(s',e',i1),hi2,hmu,?_⟩
   cbv
  ·have p0:qi i M=false:=el hA (c9d (by omega))
   have hjm:j=m:=by omega
   obtain ⟨W1,hW1⟩:∃W1,W1=s++(⟨⟨[49]⟩⟩:ByteArray):=⟨_,rfl⟩
   obtain ⟨W,hW⟩:∃W,W=W1++e:=⟨_,rfl⟩
   have p1:qq s ⟨⟨[49]⟩⟩=W1:=by rw [s4,hW1]
   have p2:qq W1 e=W:=by rw [s4,hW]
   have hWb:btl W=a10 (opU k) (shU k) m:=by
    rw [hW,a7c,hW1,a7c,hs,he,hjm,c90]
    rfl
   have z1:s.size+(⟨⟨[49]⟩⟩:ByteArray).size≤4611686018427387904:=by
    show s.size+1≤_
    omega
   have z2:W1.size+e.size≤4611686018427387904:=by
    rw [hW1,ByteArray.size_append]
    show s.size+1+e.size≤_
    omega
   have p3:qy W=rU (a10 (opU k) (shU k) m):=by rw [f2,←hWb];rfl
   generalize rU (a10 (opU k) (shU k) m)=B at *
   have g1:=eg hA gS
   have g2:=eg hA gF
   have t0:qu ⟨⟨[105,102,32,116,114,117,101,32,116,104,101,110,32,49,32,101,108,115,101,32]⟩⟩=20:=by rw [s5];rfl
   have t1:qu ⟨⟨[108,101,116,32,120,61,49,32,105,110,32]⟩⟩=11:=by rw [s5];rfl
   have t2:qa .i64 (qc 3 20)=-17:=esu hA (by rw [IntWalk.i64_in _ (by omega)];rfl)
   have t3:qa .i64 (qc 6 11)=-5:=esu hA (by rw [IntWalk.i64_in _ (by omega)];rfl)
   have g3:vc opR 4=some [.sc (.string ⟨⟨[105,102,32,116,114,117,101,32,116,104,101,110,32,49,32,101,108,115,101,32]⟩⟩)]:=eg hA rfl
   have g4:vc opR 5=some [.sc (.string ⟨⟨[108,101,116,32,120,61,49,32,105,110,32]⟩⟩)]:=eg hA rfl
   have t4:qu S=L:=by rw [s5];exact hSl
   have hLb:0≤L∧L≤20:=by omega
   obtain ⟨L2,hL2⟩:∃L2,L2=200 * L:=⟨_,rfl⟩
   have t5:qa .i64 (qd 200 L)=L2:=emu hA (by rw [IntWalk.i64_in _ (by omega)];exact hL2.symm)
   obtain ⟨L3,hL3⟩:∃L3,L3=L2+f:=⟨_,rfl⟩
   have t6:qa .i64 (qb L2 f)=L3:=ew hA (by rw [IntWalk.i64_in _ (by omega)];exact hL3.symm)
   unfold opR at g1 g3 g4
   unfold fsR at g2
   by_cases h200:m<200
   ·rw [c8Y h200] at hpx
    subst hpx
    dsimp only at hP
    have t7:qj 200 M=false:=em hA (c9d (by omega))
    have t8:qa .i64 0=0:=ewp hA rfl
    have t9:qk 0 0=true:=eb hA rfl
    iterate 2 (try cbv;repeat ((first|with_reducible apply f8 hA|rw [p0]|rw [p1]|rw [p2]|rw [p3]|rw [g1]|rw [g2]|rw [g3]|rw [g4]|rw [t0]|rw [t1]|rw [t2]|rw [t3]|rw [t4]|rw [t5]|rw [t6]|rw [t7]|rw [t8]|rw [t9]|refine i9 hA _ hP rfl ?_|refine j5 hA _ hP ?_|refine C2 hA true ?_|refine a3A hA z1 ?_|refine a3A hA z2 ?_);cbv))
   ·rw [c8W h200,←hL2,←hL3] at hpx
    subst hpx
    dsimp only at hP
    have t7:qj 200 M=true:=em hA (c9j (by omega))
    have t8:qa .i64 6=6:=ewp hA rfl
    have t9:qk 6 6=true:=eb hA rfl
    have u0:qk L3 L3=true:=eb hA (c9T _)
    iterate 2 (try cbv;repeat ((first|with_reducible apply f8 hA|rw [p0]|rw [p1]|rw [p2]|rw [p3]|rw [g1]|rw [g2]|rw [g3]|rw [g4]|rw [t0]|rw [t1]|rw [t2]|rw [t3]|rw [t4]|rw [t5]|rw [t6]|rw [t7]|rw [t8]|rw [t9]|rw [u0]|refine i9 hA _ hP rfl ?_|refine j5 hA _ hP ?_|refine C2 hA true ?_|refine a3A hA z1 ?_|refine a3A hA z2 ?_);cbv))
theorem PD_up {r0 r1:R} {m0 m1:Nat} (d0:a2E Try.prog 50 r0 m0) (d1:a2E Try.prog 5 r1 m1):A0 5 [r0,r1] [.one (.sc (.bool true))]:=by
 obtain ⟨n,rfl,hn⟩:=b3h Try.underlying50 d0
 obtain ⟨k,rfl,hk⟩:=b3h Try.underlying5 d1
 refine c84 n k ?_ ?_
 ·have h:(decide ((0:Int)≤n) && decide (n≤65535))=true:=hn
  simpa using h
 ·have h:(decide ((0:Int)≤k) && decide (k≤255))=true:=hk
  simpa using h
end Go.Proofs.Ytahpnackkmbmgaa.Vm
end
