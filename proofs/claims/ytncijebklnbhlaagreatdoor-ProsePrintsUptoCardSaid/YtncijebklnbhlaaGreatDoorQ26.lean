/- Part 26 of the proof. Conditions: none. -/
import Derived.Test.YtncijebklnbhlaaGreatDoorQ21
import Derived.Test.YtncijebklnbhlaaGreatDoorQ25
set_option linter.all false
set_option linter.unusedVariables false
set_option linter.unusedSimpArgs false
section
namespace Go.Proofs.YtncijebklnbhlaaGreatDoor.Vm
open Go.RowKit
set_option maxRecDepth 100000
set_option maxHeartbeats 4000000
theorem b1T (op:Int) (h0:0<=op/\op<=255) (hb:op<32\/51<op):j5 13 [.one (.sc (.int .u8 op))] [.one (.sc (.string ⟨#[]⟩))]:=by
 obtain⟨L,hL⟩:∃L,L=rS b3a:=⟨_,rfl⟩;have hlen:L.length=20:=by rw[hL];rfl
 have hL:L=[[.sc (.string ⟨#[110]⟩)],[.sc (.string ⟨#[105]⟩)],[.sc (.string ⟨#[98]⟩)],[.sc (.string ⟨#[97,116,101]⟩)],[.sc (.string ⟨#[110,97,116,101]⟩)],[.sc (.string ⟨#[101,101]⟩)],[.sc (.string ⟨#[110,101,101]⟩)],[.sc (.string ⟨#[101,101,101]⟩)],[.sc (.string ⟨#[111,101,101]⟩)],[.sc (.string ⟨#[46]⟩)],[.sc (.string ⟨#[110,101,101]⟩)],[.sc (.string ⟨#[110,101]⟩)],[.sc (.string ⟨#[110,101]⟩)],[.sc (.string ⟨#[110,101,101]⟩)],[.sc (.string ⟨#[110,101]⟩)],[.sc (.string ⟨#[110,101]⟩)],[.sc (.string ⟨#[99]⟩)],[.sc (.string ⟨#[110,97,101]⟩)],[.sc (.string ⟨#[97,101]⟩)],[.sc (.string ⟨#[84,101]⟩)]]:=hL;refine C2 Tryz.func13 rfl ?_;intro qa qb _ _ _ _ _ qh qi _ _ _ _ _ _ _ _ _ _ _ _ _ qz;intros;rename_i hA;obtain⟨e1,e2,e3,e4,e5,e6,e7,e8,e9⟩:=l7 hA;obtain⟨r1,r2,r3,r4⟩:=n8 hA;have q1:qz L=20:=by rw[r1,hlen];rfl
 have q2:qa .i64 (qb 32 20)=52:=by rw[e1,e2];rfl
 have q3:qa .i64 op=op:=by rw[e1,IntWalk.i64_in _ (by omega)]
 cbv
 repeat ((first|with_reducible apply j2 hA|refine y7 hA true ?_);cbv)
 rw[<-hL]
 rcases hb with hb|hb
 ·have q0:qh op 32=true:=by rw[e7];exact decide_eq_true hb
  cbv;exact fr
 ·by_cases h:op<32
  ·omega
  ·have q0:qh op 32=false:=by rw[e7];exact decide_eq_false h
   have q4:qi 52 op=true:=by rw[e8];exact decide_eq_true (by omega)
   cbv;exact fr
theorem b3e {y:Bool} {ar:ByteArray}:(y == r5 ar && (y || (ar.data.toList == [])))=T9 ar y:=by
 cases y
 ·show ((false == r5 ar) && (false || (ar.data.toList == [])))=(ar.data.toList == []);cases h:(ar.data.toList == [])
  ·cases r5 ar <;> rfl
  ·rw[b6s h];rfl
 ·show ((true == r5 ar) && (true || (ar.data.toList == [])))=r5 ar;cases r5 ar <;> rfl
theorem c27 {op:Int} {x y:Bool} {c v:Nat} (h:shM op=some (x,y,c,v)):v<=2:=by
 unfold shM at h
 by_cases h0:op=32
 ·rw[if_pos h0] at h;cases h;omega
 rw[if_neg h0] at h
 by_cases h1:op=33\/op=34\/op=41
 ·rw[if_pos h1] at h;cases h;omega
 rw[if_neg h1] at h
 by_cases h2:op=35
 ·rw[if_pos h2] at h;cases h;omega
 rw[if_neg h2] at h
 by_cases h3:op=36
 ·rw[if_pos h3] at h;cases h;omega
 rw[if_neg h3] at h
 by_cases h4:op=37
 ·rw[if_pos h4] at h;cases h;omega
 rw[if_neg h4] at h
 by_cases h5:op=38\/op=42\/op=45
 ·rw[if_pos h5] at h;cases h;omega
 rw[if_neg h5] at h
 by_cases h6:op=39
 ·rw[if_pos h6] at h;cases h;omega
 rw[if_neg h6] at h
 by_cases h7:op=40
 ·rw[if_pos h7] at h;cases h;omega
 rw[if_neg h7] at h
 by_cases h8:op=43\/op=44\/op=46\/op=47
 ·rw[if_pos h8] at h;cases h;omega
 rw[if_neg h8] at h
 by_cases h9:op=48
 ·rw[if_pos h9] at h;cases h;omega
 rw[if_neg h9] at h
 by_cases h10:op=49
 ·rw[if_pos h10] at h;cases h;omega
 rw[if_neg h10] at h
 by_cases h11:op=50
 ·rw[if_pos h11] at h;cases h;omega
 rw[if_neg h11] at h
 by_cases h12:op=51
 ·rw[if_pos h12] at h;cases h;omega
 rw[if_neg h12] at h;cases h
theorem c1j {op:Int} {nm ar:ByteArray} {n:Int} {h:Bool} {a:Ty} {x y:Bool} {c v:Nat} {s:ByteArray} (hs:shM op=some (x,y,c,v)) (hf:OpF op x y c v s) (arm:Bool) (len:Nat) :
  ndB GA arm op nm ar n h a len=((arm == (op == 49 || op == 50)) && (ptB (op == 40) (x && !(op == 40)) y (op == 33) (op == 34) (v == 2) (v == 1) (a12.any λs=>s.data.toList == nm.data.toList) (r5 nm) (r5 ar) (nm.data.toList == []) (ar.data.toList == []) (decide (n<0)) (decide (0<n)) (n == 1) h (J7 a) (x9 a 116) (((rI (T8 a)).length:Int) == 0) && (if c=99 then decide (0<len) else len == c))):=by
 obtain⟨f1,f2,f3,f4,f5,f6,f7,f8,f9,f10,f11,f12,f13⟩:=hf;obtain⟨hvb,-⟩:=b6d hs;unfold ndB ptB;rw[hs];dsimp only
 have hG:(x9 a 116 && (((rI (T8 a)).length:Int) == 0))=GA a:=by
  unfold GA a14 H1;cases x9 a 116
  ·rfl
  ·have:(((rI (T8 a)).length:Int) == 0)=(T8 a).isEmpty:=by
    unfold rI;rw[List.length_map];cases T8 a with
    | nil=>rfl
    | cons z l=>exact beq_false_of_ne (by rw[List.length_cons];omega)
   rw[this];rfl
 have hN:(!(decide (n<0)) && (!(decide (0<n)) || ((op == 33) || ((op == 34) && (n == 1)))))=(if op=33 then decide (0<=n) else if op=34 then n == 0 || n == 1 else n == 0):=by
  by_cases h33:op=33
  ·rw[if_pos h33,h33];rw[show ((33:Int) == 33)=true from rfl,Bool.true_or,Bool.or_true,Bool.and_true,<-decide_not];exact decide_eq_decide.2 (by omega)
  ·rw[if_neg h33,beq_false_of_ne h33,Bool.false_or]
   by_cases h34:op=34
   ·rw[if_pos h34,h34,show ((34:Int) == 34)=true from rfl,Bool.true_and,Bool.eq_iff_iff];simp only[Bool.and_eq_true,Bool.not_eq_true',decide_eq_false_iff_not,Bool.or_eq_true,beq_iff_eq];omega
   ·rw[if_neg h34,beq_false_of_ne h34,Bool.false_and,Bool.or_false,Bool.eq_iff_iff];simp only[Bool.and_eq_true,Bool.not_eq_true',decide_eq_false_iff_not,beq_iff_eq];omega
 have hA:(if h=true then ((v == 2) || (v == 1)) && (x9 a 116 && (((rI (T8 a)).length:Int) == 0)) else !(v == 2) && J7 a)=(if h=true then decide (0<v) && GA a else decide (v<2) && J7 a):=by
  have h2:=c27 hs;rw[hG]
  have e1:((v == 2) || (v == 1))=decide (0<v):=by
   rw[Bool.eq_iff_iff,Bool.or_eq_true,beq_iff_eq,beq_iff_eq,decide_eq_true_eq];omega
  have e2:(!(v == 2))=decide (v<2):=by
   rw[Bool.eq_iff_iff,Bool.not_eq_true',beq_eq_false_iff_ne,decide_eq_true_eq];omega
  rw[e1,e2]
 have hM:(((op == 40) == (a12.any λs=>s.data.toList == nm.data.toList)) && ((op == 40) || ((x && !(op == 40)) == r5 nm && ((x && !(op == 40)) || (nm.data.toList == [])))))=(if op=40 then a12.any λs=>s.data.toList == nm.data.toList else T9 nm x):=by
  by_cases h40:op=40
  ·rw[if_pos h40,h40,show ((40:Int) == 40)=true from rfl];cases (a12.any λs=>s.data.toList == nm.data.toList) <;> rfl
  ·rw[if_neg h40,beq_false_of_ne h40,Bool.not_false,Bool.and_true,Bool.false_or,b3e];cases hc:(a12.any λs=>s.data.toList == nm.data.toList)
   ·rw[show ((false:Bool) == false)=true from rfl,Bool.true_and]
   ·have h1:=b7Q hc
    have h2:(nm.data.toList == [])=false:=by
     cases h2:(nm.data.toList == [])
     ·rfl
     ·rw[b7R h2] at hc;cases hc
    rw[show ((false:Bool) == true)=false from rfl,Bool.false_and];cases x
    ·exact h2.symm
    ·exact h1.symm
 rw[<-hN,<-hA,<-hM,<-b3e (y:=y) (ar:=ar)];generalize (((op == 40) == (a12.any λs=>s.data.toList == nm.data.toList)))=z1;generalize ((op == 40) || ((x && !(op == 40)) == r5 nm && ((x && !(op == 40)) || (nm.data.toList == []))))=z2;generalize (y == r5 ar && (y || (ar.data.toList == [])))=z3;generalize (!(decide (n<0)) && (!(decide (0<n)) || ((op == 33) || ((op == 34) && (n == 1)))))=z4;generalize (if h=true then ((v == 2) || (v == 1)) && (x9 a 116 && (((rI (T8 a)).length:Int) == 0)) else !(v == 2) && J7 a)=z5;generalize (if c=99 then decide (0<len) else len == c)=z6;generalize (arm == (op == 49 || op == 50))=z7;cases z1 <;> cases z2 <;> cases z3 <;> cases z4 <;> cases z5 <;> cases z6 <;> cases z7 <;> rfl
end Go.Proofs.YtncijebklnbhlaaGreatDoor.Vm
end
