/- Part 24 of the proof. Conditions: none. -/
import Derived.Test.YtncijebklnbhlaaGreatDoorQ4
import Derived.Test.YtncijebklnbhlaaGreatDoorQ23
set_option linter.all false
set_option linter.unusedVariables false
set_option linter.unusedSimpArgs false
section
namespace Go.Proofs.YtncijebklnbhlaaGreatDoor.Vm
open Go.RowKit
set_option maxRecDepth 100000
set_option maxHeartbeats 4000000
def a2t:List UInt8->Nat
 | []=>0
 | x::l=>(if (x.toNat:Int) == 101 then 1 else 0)+a2t l
theorem b6r (l m:List UInt8):a2t (l++m)=a2t l+a2t m:=by
 induction l with
 | nil=>simp[a2t]
 | cons x l ih=>rw[List.cons_append,a2t,a2t,ih];omega
theorem b9T {op:Int} {q:Bool×Bool×Nat×Nat} (h:shM op=some q):32<=op/\op<=51:=by
 unfold shM at h
 by_cases h0:op=32
 ·omega
 rw[if_neg h0] at h
 by_cases h1:op=33\/op=34\/op=41
 ·omega
 rw[if_neg h1] at h
 by_cases h2:op=35
 ·omega
 rw[if_neg h2] at h
 by_cases h3:op=36
 ·omega
 rw[if_neg h3] at h
 by_cases h4:op=37
 ·omega
 rw[if_neg h4] at h
 by_cases h5:op=38\/op=42\/op=45
 ·omega
 rw[if_neg h5] at h
 by_cases h6:op=39
 ·omega
 rw[if_neg h6] at h
 by_cases h7:op=40
 ·omega
 rw[if_neg h7] at h
 by_cases h8:op=43\/op=44\/op=46\/op=47
 ·omega
 rw[if_neg h8] at h
 by_cases h9:op=48
 ·omega
 rw[if_neg h9] at h
 by_cases h10:op=49
 ·omega
 rw[if_neg h10] at h
 by_cases h11:op=50
 ·omega
 rw[if_neg h11] at h
 by_cases h12:op=51
 ·omega
 rw[if_neg h12] at h;cases h
def OpF (op:Int) (x y:Bool) (c v:Nat) (s:ByteArray):Prop:=s.size<=8/\a3Y (H3 s) 111=(op == 40)/\a3Y (H3 s) 110=(x && !(op == 40))/\a3Y (H3 s) 97=y/\a3Y (H3 s) 105=(op == 33)/\a3Y (H3 s) 98=(op == 34)/\a3Y (H3 s) 84=(v == 2)/\a3Y (H3 s) 116=(v == 1)/\a2t (H3 s)=(if c=99 then 0 else c)/\(H3 s == [99])=(op == 48)/\(H3 s == [])=false/\(op=33\/op=34->x=false/\y=false/\v=0)/\(op=40->y=false/\v=0)
instance (op:Int) (x y:Bool) (c v:Nat) (s:ByteArray):Decidable (OpF op x y c v s):=by unfold OpF;infer_instance
theorem c25 {op:Int} {x y:Bool} {c v:Nat} (h:shM op=some (x,y,c,v)):∃(k:Nat) (s:ByteArray),op=32+(k:Int)/\b3a[k]?=some s/\OpF op x y c v s:=by
 have hb:=b9T h;obtain⟨k,hk⟩:∃k:Nat,op=32+(k:Int):=⟨(op - 32).toNat,by omega⟩;subst hk;have hk:k=0\/k=1\/k=2\/k=3\/k=4\/k=5\/k=6\/k=7\/k=8\/k=9\/k=10\/k=11\/k=12\/k=13\/k=14\/k=15\/k=16\/k=17\/k=18\/k=19:=by omega
 rcases hk with rfl|rfl|rfl|rfl|rfl|rfl|rfl|rfl|rfl|rfl|rfl|rfl|rfl|rfl|rfl|rfl|rfl|rfl|rfl|rfl
 ·rw[show shM (32+((0:Nat):Int))=some (true,false,0,0) from rfl] at h;cases h;exact⟨0,_,rfl,rfl,by decide⟩
 ·rw[show shM (32+((1:Nat):Int))=some (false,false,0,0) from rfl] at h;cases h;exact⟨1,_,rfl,rfl,by decide⟩
 ·rw[show shM (32+((2:Nat):Int))=some (false,false,0,0) from rfl] at h;cases h;exact⟨2,_,rfl,rfl,by decide⟩
 ·rw[show shM (32+((3:Nat):Int))=some (false,true,1,1) from rfl] at h;cases h;exact⟨3,_,rfl,rfl,by decide⟩
 ·rw[show shM (32+((4:Nat):Int))=some (true,true,1,1) from rfl] at h;cases h;exact⟨4,_,rfl,rfl,by decide⟩
 ·rw[show shM (32+((5:Nat):Int))=some (false,false,2,0) from rfl] at h;cases h;exact⟨5,_,rfl,rfl,by decide⟩
 ·rw[show shM (32+((6:Nat):Int))=some (true,false,2,0) from rfl] at h;cases h;exact⟨6,_,rfl,rfl,by decide⟩
 ·rw[show shM (32+((7:Nat):Int))=some (false,false,3,0) from rfl] at h;cases h;exact⟨7,_,rfl,rfl,by decide⟩
 ·rw[show shM (32+((8:Nat):Int))=some (true,false,2,0) from rfl] at h;cases h;exact⟨8,_,rfl,rfl,by decide⟩
 ·rw[show shM (32+((9:Nat):Int))=some (false,false,0,0) from rfl] at h;cases h;exact⟨9,_,rfl,rfl,by decide⟩
 ·rw[show shM (32+((10:Nat):Int))=some (true,false,2,0) from rfl] at h;cases h;exact⟨10,_,rfl,rfl,by decide⟩
 ·rw[show shM (32+((11:Nat):Int))=some (true,false,1,0) from rfl] at h;cases h;exact⟨11,_,rfl,rfl,by decide⟩
 ·rw[show shM (32+((12:Nat):Int))=some (true,false,1,0) from rfl] at h;cases h;exact⟨12,_,rfl,rfl,by decide⟩
 ·rw[show shM (32+((13:Nat):Int))=some (true,false,2,0) from rfl] at h;cases h;exact⟨13,_,rfl,rfl,by decide⟩
 ·rw[show shM (32+((14:Nat):Int))=some (true,false,1,0) from rfl] at h;cases h;exact⟨14,_,rfl,rfl,by decide⟩
 ·rw[show shM (32+((15:Nat):Int))=some (true,false,1,0) from rfl] at h;cases h;exact⟨15,_,rfl,rfl,by decide⟩
 ·rw[show shM (32+((16:Nat):Int))=some (false,false,99,0) from rfl] at h;cases h;exact⟨16,_,rfl,rfl,by decide⟩
 ·rw[show shM (32+((17:Nat):Int))=some (true,true,1,0) from rfl] at h;cases h;exact⟨17,_,rfl,rfl,by decide⟩
 ·rw[show shM (32+((18:Nat):Int))=some (false,true,1,0) from rfl] at h;cases h;exact⟨18,_,rfl,rfl,by decide⟩
 ·rw[show shM (32+((19:Nat):Int))=some (false,false,1,2) from rfl] at h;cases h;exact⟨19,_,rfl,rfl,by decide⟩
theorem b7Q {s:ByteArray} (h:(a12.any λx=>x.data.toList == s.data.toList)=true):r5 s=false:=by
 rw[List.any_eq_true] at h;obtain⟨x,hx,he⟩:=h;have e:s=x:=ByteArray.ext (Array.ext' (by simpa using Eq.symm (by simpa using he)));subst e;revert hx;unfold a12;simp only[List.mem_cons,List.not_mem_nil,or_false]
 rintro (rfl|rfl|rfl|rfl|rfl|rfl|rfl) <;> decide
theorem b6s {s:ByteArray} (h:(s.data.toList == [])=true):r5 s=false:=by
 have h:s.data.toList=[]:=by simpa using h
 have hz:s.size=0:=by rw[<-ByteArray.size_data,<-Array.length_toList,h];rfl
 unfold r5 M7;rw[hz,decide_eq_false (show ¬0<0 by omega),Bool.and_false,Bool.false_and,Bool.and_false]
theorem b7R {s:ByteArray} (h:(s.data.toList == [])=true):(a12.any λx=>x.data.toList == s.data.toList)=false:=by
 have h:s.data.toList=[]:=by simpa using h
 rw[h]
 decide

section
def a2T (l:List Nat):Nat->List V->List V
 | _,[]=>[]
 | i,x::t=>(match a5e i l with|true=>x|false=>.jk)::a2T l (i+1) t
theorem a8g (l:List Nat):∀(t:List V) (i j:Nat) (x:V),(a2T l i t)[j]?=some x->∃y,t[j]?=some y/\(x=y\/x=.jk)
 | [],i,j,x,h=>by rw[a2T] at h;simp at h
 | y::t,i,0,x,h=>by
  rw[a2T,List.getElem?_cons_zero] at h;injection h with h;refine⟨y,rfl,?_⟩;rw[<-h];cases a5e i l
  ·exact .inr rfl
  ·exact .inl rfl
 | y::t,i,j+1,x,h=>by
  rw[a2T,List.getElem?_cons_succ] at h;obtain⟨z,h1,h2⟩:=a8g l t (i+1) j x h;exact⟨z,h1,h2⟩
theorem a8h (l:List Nat):∀(t:List V) (i:Nat),(a2T l i t).length=t.length
 | [],_=>rfl
 | y::t,i=>by rw[a2T,List.length_cons,List.length_cons,a8h l t (i+1)]
theorem b7S (l:List Nat) (s:S):E2 s ⟨a2T l 0 s.t,s.o⟩:=λI0 X w0 a w ⟨I,g,h⟩=>by
 refine⟨I,g,h.im,h.lt,h.fr,h.kp,h.lo,h.st,h.obj,h.dis,h.out,⟨by rw[a8h];exact h.tmp.1,λi u c hu hc=>?_⟩,h.dfr⟩;obtain⟨y,h1,h2⟩:=a8g l s.t 0 i c hc
 rcases h2 with rfl|rfl
 ·exact h.tmp.2 i u c hu h1
 ·exact .jk u
section
variable {qa:_} {qb:_} {qc:_} {qd:_} {qe:_} {qf:_} {qg:_} {qh:_} {qi:_} {qj:_} {qk:_} {ql:_} {qm:_} {qo:_} {qp:_} {qq:_} {qt:_} {qu:_} {qv:_} {qw:_} {qx:_} {qy:_} {qz:_} {va:_} {vc:_} {vd:_} {ve:_} {vf:_} {vg:_} {vh:_} {vj:_} {vk:_} {vl:_} {vm:_} {vn:_} {vo:_} {vp:_} {vq:_} {vr:_} {vt:_} {vu:_} {vv:_} {vw:_} (hA:Ar.mk qa qb qc qd qe qf qg qh qi qj qk ql qm qo qp qq qt qu qv qw qx qy qz va vc vd ve vf vg vh vj vk vl vm vn vo vp vq vr vt vu vv vw=j1)
include hA
theorem b7T (l:List Nat) {N:S->Prop} {s:S} (h:N ⟨a2T l 0 s.t,s.o⟩):vt N s:=T6 hA _ (b7S l s) h
theorem a3Z (l:List Nat) {N:S->Prop} {s:S} (h:∀F:S->Prop,F=N->F ⟨a2T l 0 s.t,s.o⟩):vt N s:=b7T hA l (h N rfl)
end
theorem jn {P Q:Prop} (h:Q->P) (hq:Q):P:=h hq
end
end Go.Proofs.YtncijebklnbhlaaGreatDoor.Vm
end
