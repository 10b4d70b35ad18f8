/- Part 21 of the proof. Conditions: none. -/
import Derived.Test.YtdjnoafijjepcaaGreatT20
import Derived.Test.YtdjnoafijjepcaaGreatT0
set_option linter.all false
set_option linter.unusedVariables false
set_option linter.unusedSimpArgs false
section
namespace Go.Proofs.YtdjnoafijjepcaaGreat.Vm
open Go.RowKit
set_option maxRecDepth 100000
set_option maxHeartbeats 4000000
def a4P:List UInt8->Nat
 | []=>0
 | x::l=>(if (x.toNat:Int) == 101 then 1 else 0)+a4P l
theorem c3X (l m:List UInt8):a4P (l++m)=a4P l+a4P m:=by
 induction l with
 | nil=>simp[a4P]
 | cons x l ih=>rw[d43,a4P,a4P,ih];omega
theorem c9P {op:Int} {q:Bool×Bool×Nat×Nat} (h:shM op=some q):32<=op/\op<=51:=by
 unfold shM at h
 by_cases h0:op=32
 ·omega
 rw[d3G h0] at h
 by_cases h1:op=33\/op=34\/op=41
 ·omega
 rw[d3G h1] at h
 by_cases h2:op=35
 ·omega
 rw[d3G h2] at h
 by_cases h3:op=36
 ·omega
 rw[d3G h3] at h
 by_cases h4:op=37
 ·omega
 rw[d3G h4] at h
 by_cases h5:op=38\/op=42\/op=45
 ·omega
 rw[d3G h5] at h
 by_cases h6:op=39
 ·omega
 rw[d3G h6] at h
 by_cases h7:op=40
 ·omega
 rw[d3G h7] at h
 by_cases h8:op=43\/op=44\/op=46\/op=47
 ·omega
 rw[d3G h8] at h
 by_cases h9:op=48
 ·omega
 rw[d3G h9] at h
 by_cases h10:op=49
 ·omega
 rw[d3G h10] at h
 by_cases h11:op=50
 ·omega
 rw[d3G h11] at h
 by_cases h12:op=51
 ·omega
 rw[d3G h12] at h;cases h
def OpF (op:Int) (x y:Bool) (c v:Nat) (s:ByteArray):Prop:=s.size<=8/\a7c (btl s) 111=(op == 40)/\a7c (btl s) 110=(x && !(op == 40))/\a7c (btl s) 97=y/\a7c (btl s) 105=(op == 33)/\a7c (btl s) 98=(op == 34)/\a7c (btl s) 84=(v == 2)/\a7c (btl s) 116=(v == 1)/\a4P (btl s)=(if c=99 then 0 else c)/\(btl s == [99])=(op == 48)/\(btl s == [])=false/\(op=33\/op=34->x=false/\y=false/\v=0)/\(op=40->y=false/\v=0)
instance (op:Int) (x y:Bool) (c v:Nat) (s:ByteArray):Decidable (OpF op x y c v s):=by unfold OpF;infer_instance
theorem d3l {op:Int} {x y:Bool} {c v:Nat} (h:shM op=some (x,y,c,v)):∃(k:Nat) (s:ByteArray),op=32+(k:Int)/\c3U[k]?=some s/\OpF op x y c v s:=by
 have hb:=c9P h;obtain⟨k,hk⟩:∃k:Nat,op=32+(k:Int):=⟨(op - 32).toNat,by omega⟩;subst hk;have hk:k=0\/k=1\/k=2\/k=3\/k=4\/k=5\/k=6\/k=7\/k=8\/k=9\/k=10\/k=11\/k=12\/k=13\/k=14\/k=15\/k=16\/k=17\/k=18\/k=19:=by omega
 rcases hk with rfl|rfl|rfl|rfl|rfl|rfl|rfl|rfl|rfl|rfl|rfl|rfl|rfl|rfl|rfl|rfl|rfl|rfl|rfl|rfl
 ·rw[show shM (32+((0:Nat):Int))=some (true,false,0,0) from rfl] at h;cases h;exact⟨0,_,rfl,rfl,by decide⟩
 ·rw[show shM (32+((1:Nat):Int))=some (false,false,0,0) from rfl] at h;cases h;exact⟨1,_,rfl,rfl,by decide⟩
 ·rw[show shM (32+((2:Nat):Int))=some (false,false,0,0) from rfl] at h;cases h;exact⟨2,_,rfl,rfl,by decide⟩
 ·rw[show shM (32+((3:Nat):Int))=some (false,true,1,1) from rfl] at h;cases h;exact⟨3,_,rfl,rfl,by decide⟩
 ·rw[show shM (32+((4:Nat):Int))=some (true,true,1,1) from rfl] at h;cases h;exact⟨4,_,rfl,rfl,by decide⟩
 ·rw[show shM (32+((5:Nat):Int))=some (false,false,2,0) from rfl] at h;cases h;exact⟨5,_,rfl,rfl,by decide⟩
 ·rw[show shM (32+((6:Nat):Int))=some (true,false,2,0) from rfl] at h;cases h;exact⟨6,_,rfl,rfl,by decide⟩
 ·rw[show shM (32+((7:Nat):Int))=some (false,false,3,0) from rfl] at h;cases h;exact⟨7,_,rfl,rfl,by decide⟩
 ·rw[show shM (32+((8:Nat):Int))=some (true,false,2,0) from rfl] at h;cases h;exact⟨8,_,rfl,rfl,by decide⟩
 ·rw[show shM (32+((9:Nat):Int))=some (false,false,0,0) from rfl] at h;cases h;exact⟨9,_,rfl,rfl,by decide⟩
 ·rw[show shM (32+((10:Nat):Int))=some (true,false,2,0) from rfl] at h;cases h;exact⟨10,_,rfl,rfl,by decide⟩
 ·rw[show shM (32+((11:Nat):Int))=some (true,false,1,0) from rfl] at h;cases h;exact⟨11,_,rfl,rfl,by decide⟩
 ·rw[show shM (32+((12:Nat):Int))=some (true,false,1,0) from rfl] at h;cases h;exact⟨12,_,rfl,rfl,by decide⟩
 ·rw[show shM (32+((13:Nat):Int))=some (true,false,2,0) from rfl] at h;cases h;exact⟨13,_,rfl,rfl,by decide⟩
 ·rw[show shM (32+((14:Nat):Int))=some (true,false,1,0) from rfl] at h;cases h;exact⟨14,_,rfl,rfl,by decide⟩
 ·rw[show shM (32+((15:Nat):Int))=some (true,false,1,0) from rfl] at h;cases h;exact⟨15,_,rfl,rfl,by decide⟩
 ·rw[show shM (32+((16:Nat):Int))=some (false,false,99,0) from rfl] at h;cases h;exact⟨16,_,rfl,rfl,by decide⟩
 ·rw[show shM (32+((17:Nat):Int))=some (true,true,1,0) from rfl] at h;cases h;exact⟨17,_,rfl,rfl,by decide⟩
 ·rw[show shM (32+((18:Nat):Int))=some (false,true,1,0) from rfl] at h;cases h;exact⟨18,_,rfl,rfl,by decide⟩
 ·rw[show shM (32+((19:Nat):Int))=some (false,false,1,2) from rfl] at h;cases h;exact⟨19,_,rfl,rfl,by decide⟩
theorem c6N {s:ByteArray} (h:(a5s.any λx=>x.data.toList == s.data.toList)=true):A3 s=false:=by
 rw[d6j] at h;obtain⟨x,hx,he⟩:=h;have e:s=x:=d6x (d57 (by simpa using Eq.symm (by simpa using he)));subst e;revert hx;unfold a5s;simp only[d3R,d5h,d6b]
 rintro (rfl|rfl|rfl|rfl|rfl|rfl|rfl) <;> decide
theorem b5t {s:ByteArray} (h:(s.data.toList == [])=true):A3 s=false:=by
 have h:s.data.toList=[]:=by simpa using h
 have hz:s.size=0:=by rw[<-d54,<-d4K,h];rfl
 unfold A3 Q6;rw[hz,d3P (show ¬0<0 by omega),d5a,d56,d5a]
theorem any_nil {s:ByteArray} (h:(s.data.toList == [])=true):(a5s.any λx=>x.data.toList == s.data.toList)=false:=by
 have h:s.data.toList=[]:=by simpa using h
 rw[h]
 decide
theorem d2a {op:Int} {x y:Bool} {c v:Nat} (h:shM op=some (x,y,c,v)) (hv:0<v):(v == 2)=true\/(v == 1)=true:=by
 unfold shM at h
 by_cases h0:op=32
 ·rw[d3I h0] at h;cases h;revert hv;decide
 rw[d3G h0] at h
 by_cases h1:op=33\/op=34\/op=41
 ·rw[d3I h1] at h;cases h;revert hv;decide
 rw[d3G h1] at h
 by_cases h2:op=35
 ·rw[d3I h2] at h;cases h;revert hv;decide
 rw[d3G h2] at h
 by_cases h3:op=36
 ·rw[d3I h3] at h;cases h;revert hv;decide
 rw[d3G h3] at h
 by_cases h4:op=37
 ·rw[d3I h4] at h;cases h;revert hv;decide
 rw[d3G h4] at h
 by_cases h5:op=38\/op=42\/op=45
 ·rw[d3I h5] at h;cases h;revert hv;decide
 rw[d3G h5] at h
 by_cases h6:op=39
 ·rw[d3I h6] at h;cases h;revert hv;decide
 rw[d3G h6] at h
 by_cases h7:op=40
 ·rw[d3I h7] at h;cases h;revert hv;decide
 rw[d3G h7] at h
 by_cases h8:op=43\/op=44\/op=46\/op=47
 ·rw[d3I h8] at h;cases h;revert hv;decide
 rw[d3G h8] at h
 by_cases h9:op=48
 ·rw[d3I h9] at h;cases h;revert hv;decide
 rw[d3G h9] at h
 by_cases h10:op=49
 ·rw[d3I h10] at h;cases h;revert hv;decide
 rw[d3G h10] at h
 by_cases h11:op=50
 ·rw[d3I h11] at h;cases h;revert hv;decide
 rw[d3G h11] at h
 by_cases h12:op=51
 ·rw[d3I h12] at h;cases h;revert hv;decide
 rw[d3G h12] at h;cases h
theorem c9Q {op:Int} {nm ar:ByteArray} {n:Int} {b:Bool} {a:Ty} {ks:List Tm} {arm:Bool} (hSm:SmT (.mk op nm ar n b a ks)) (h:ndB GA arm op nm ar n b a ks.length=true):∃(s:ByteArray) (x y:Bool) (c v:Nat),shM op=some (x,y,c,v)/\OpF op x y c v s/\o8 18 [.one (.sc (.int .u8 op))] [.one (.sc (.string s))]/\o8 19 [.ag (cM (.mk op nm ar n b a ks)),.one (.sc (.string s))] [.one (.sc (.bool true))]/\arm=(op == 49 || op == 50)/\(if c=99 then ks.length≠0 else ks.length=c):=by
 obtain⟨hSa,hSn,hSr⟩:=hSm;unfold ndB at h;cases hs:shM op with
 | none=>rw[hs] at h;cases h
 | some q =>
  obtain⟨x,y,c,v⟩:=q;rw[hs] at h;dsimp only at h;simp only[d3N] at h;obtain⟨ha,hnb,hnt,hny,hnm,hkk⟩:=h;obtain⟨k,s,hk,hp,hf⟩:=d3l hs;have hf':=hf;obtain⟨f1,f2,f3,f4,f5,f6,f7,f8,f9,f10,f11,f12,f13⟩:=hf;refine⟨s,x,y,c,v,rfl,hf',c0q op k s hk hp,?_,by simpa using ha,?_⟩
  ·have hh:=λc=>d1X s c (by omega)
   have g1:=hh 111;have g2:=hh 110;have g3:=hh 97;have g4:=hh 105;have g5:=hh 98;have g6:=hh 84;have g7:=hh 116;rw[f2] at g1;rw[f3] at g2;rw[f4] at g3;rw[f5] at g4;rw[f6] at g5;rw[f7] at g6;rw[f8] at g7;have hw:=a4K nm (by omega);have hv:=a4K ar (by omega);have hz:=c9N a;obtain⟨a0,a1,a2,a3,haa⟩:=m8 a
   have hya:A3 ar=y:=by
    cases y
    ·exact b5t hny
    ·exact hny
   rw[hya] at hv;have har:y=false->(ar.data.toList == [])=true:=λe=>by rw[e] at hny;exact hny
   rw[cM,haa];rw[haa] at hz
   by_cases h40:op=40
   ·obtain⟨rfl,rfl⟩:=f13 h40;subst h40;rw[d3I rfl] at hnm
    have hb:b=false:=by
     cases b
     ·rfl
     ·rw[d3I rfl] at hnt;rw[d3N] at hnt;exact absurd hnt.1 (by decide)
    subst hb;rw[d3G (by decide),d3N] at hnt;rw[hnt.2] at hz;rw[d3G (by decide),d3G (by decide)] at hnb;exact c6L g1 g3 g6 (by simpa using hnb) hv (har rfl) hnm hz
   ·have e40:(op == 40)=false:=d3T h40;rw[d3G h40] at hnm;rw[e40] at g1 g2;rw[Bool.not_false,Bool.and_true] at g2
    have hxn:A3 nm=x:=by
     cases x
     ·exact b5t hnm
     ·exact hnm
    rw[hxn] at hw;have hnn:x=false->(nm.data.toList == [])=true:=λe=>by rw[e] at hnm;exact hnm
    have hany:(a5s.any λs=>s.data.toList == nm.data.toList)=false:=by
     cases x
     ·exact any_nil (hnn rfl)
     ·cases hc:(a5s.any λs=>s.data.toList == nm.data.toList)
      ·rfl
      ·rw[c6N hc] at hxn;cases hxn
    refine c6M g1 g2 g3 g4 g5 g6 g7 hany hw hv hnn har ?_ (λe=>?_) (λe=>?_) ?_
    ·by_cases h33:op=33
     ·rw[d3I h33] at hnb;have:=d4u hnb
      rcases (show n=0\/0<n by omega) with h|h
      ·exact .inl h
      ·exact .inr (.inl ⟨h,by rw[h33];rfl⟩)
     ·rw[d3G h33] at hnb
      by_cases h34:op=34
      ·rw[d3I h34,d41,d4H,d4H] at hnb
       rcases hnb with h|h
       ·exact .inl h
       ·exact .inr (.inr ⟨h,d3T h33,by rw[h34];rfl⟩)
      ·rw[d3G h34] at hnb;exact .inl (by simpa using hnb)
    ·rw[e,d3G (by decide),d3N] at hnt;have:=d4u hnt.1;rw[hnt.2] at hz;exact⟨d3T (by omega),hz⟩
    ·rw[e,d3I rfl,d3N] at hnt;have hv0:=d4u hnt.1;have hv1:=(c3Q hs).1;have hG:=hnt.2;unfold GA at hG;rw[d3N] at hG;have hr:=c6a a hSa.1 hSa.2;rw[hG.1,haa] at hr;have hV:=c9K a hSa.1 (a2y (a1K hG.1).1);have hc:=hG.2;unfold a2P at hc;rw[d3N,d6g] at hc;rw[hc.2,haa] at hV;exact⟨d2a hs hv0,hr,hV⟩
    ·cases hb:b
     ·rcases (show (op=33\/op=34)\/¬(op=33\/op=34) from Classical.em _) with h|h
      ·obtain⟨e1,e2,_⟩:=f12 h;exact .inr (.inl ⟨e1,e2,rfl⟩)
      ·rw[d3G (λe=>h (.inl e)),d3G (λe=>h (.inr e))] at hnb;exact .inl ⟨by simpa using hnb,rfl⟩
     ·rw[hb,d3I rfl,d3N] at hnt;have hv0:=d4u hnt.1;have h:¬(op=33\/op=34):=λh=>by have:=(f12 h).2.2;omega
      rw[d3G (λe=>h (.inl e)),d3G (λe=>h (.inr e))] at hnb;exact .inr (.inr ⟨by simpa using hnb,rfl⟩)
  ·by_cases h9:c=99
   ·rw[d3I h9] at hkk ⊢;have:=d4u hkk;omega
   ·rw[d3G h9] at hkk ⊢
    simpa using hkk
end Go.Proofs.YtdjnoafijjepcaaGreat.Vm
end
