/- Part 19 of the proof. Conditions: none. -/
import Derived.Test.YtncijebklnbhlaaGreatDoorQ4
import Derived.Test.YtncijebklnbhlaaGreatDoorQ18
set_option linter.all false
set_option linter.unusedVariables false
set_option linter.unusedSimpArgs false
section
namespace Go.Proofs.YtncijebklnbhlaaGreatDoor.Vm
open Go.RowKit
set_option maxRecDepth 100000
set_option maxHeartbeats 4000000
def SmT:Tm->Prop
 | .mk _ nm ar _ _ a _=>Sm a/\nm.size<=1048576/\ar.size<=1048576
def GA (a:Ty):Bool:=x9 a 116 && a14 a
theorem b6b {G:Ty->Bool} {t:Tm} (h:rtM G true t=true):opM t=49\/opM t=50:=by
 obtain⟨op,nm,ar,n,b,a,ks⟩:=t;rw[rtM,Bool.and_eq_true] at h;have h1:=h.1;unfold ndB at h1
 split at h1
 ·cases h1
 ·rw[Bool.and_eq_true] at h1;have h2:=h1.1;show op=49\/op=50
  by_cases h3:op=49
  ·exact .inl h3
  ·by_cases h4:op=50
   ·exact .inr h4
   ·rw[beq_false_of_ne h3,beq_false_of_ne h4] at h2;cases h2
theorem b6c {G:Ty->Bool} {cs:Bool} {x:Tm} {l:List Tm} {f:Bool}:rtK G cs f (x::l)=(!((cs && !f) && !(opM x == 49 || (opM x == 50 && l.isEmpty))) && (rtM G (cs && !f) x && rtK G cs false l)):=by
 rw[rtK];cases hc:(cs && !f)
 ·simp
 ·cases hr:rtM G true x
  ·simp
  ·rcases b6b hr with h|h
   ·rw[h];rfl
   ·rw[h];cases l <;> rfl
theorem b6d {op:Int} {x y:Bool} {c v:Nat} (h:shM op=some (x,y,c,v)):v<=100/\c<=99:=by
 unfold shM at h
 by_cases h0:op=32
 ·rw[if_pos h0] at h;cases h;omega
 rw[if_neg h0] at h
 by_cases h1:op=33\/op=34\/op=41
 ·rw[if_pos h1] at h;cases h;omega
 rw[if_neg h1] at h
 by_cases h2:op=35
 ·rw[if_pos h2] at h;cases h;omega
 rw[if_neg h2] at h
 by_cases h3:op=36
 ·rw[if_pos h3] at h;cases h;omega
 rw[if_neg h3] at h
 by_cases h4:op=37
 ·rw[if_pos h4] at h;cases h;omega
 rw[if_neg h4] at h
 by_cases h5:op=38\/op=42\/op=45
 ·rw[if_pos h5] at h;cases h;omega
 rw[if_neg h5] at h
 by_cases h6:op=39
 ·rw[if_pos h6] at h;cases h;omega
 rw[if_neg h6] at h
 by_cases h7:op=40
 ·rw[if_pos h7] at h;cases h;omega
 rw[if_neg h7] at h
 by_cases c0:op=43\/op=44\/op=46\/op=47
 ·rw[if_pos c0] at h;cases h;omega
 rw[if_neg c0] at h
 by_cases c1:op=48
 ·rw[if_pos c1] at h;cases h;omega
 rw[if_neg c1] at h
 by_cases h10:op=49
 ·rw[if_pos h10] at h;cases h;omega
 rw[if_neg h10] at h
 by_cases h11:op=50
 ·rw[if_pos h11] at h;cases h;omega
 rw[if_neg h11] at h
 by_cases h12:op=51
 ·rw[if_pos h12] at h;cases h;omega
 rw[if_neg h12] at h;cases h
theorem b6e {op:Int} {x y:Bool} {c v:Nat} (h:shM op=some (x,y,c,v)):(op=48->c=99)/\(op≠48->c≠99):=by
 unfold shM at h
 by_cases h0:op=32
 ·rw[if_pos h0] at h;cases h;omega
 rw[if_neg h0] at h
 by_cases h1:op=33\/op=34\/op=41
 ·rw[if_pos h1] at h;cases h;omega
 rw[if_neg h1] at h
 by_cases h2:op=35
 ·rw[if_pos h2] at h;cases h;omega
 rw[if_neg h2] at h
 by_cases h3:op=36
 ·rw[if_pos h3] at h;cases h;omega
 rw[if_neg h3] at h
 by_cases h4:op=37
 ·rw[if_pos h4] at h;cases h;omega
 rw[if_neg h4] at h
 by_cases h5:op=38\/op=42\/op=45
 ·rw[if_pos h5] at h;cases h;omega
 rw[if_neg h5] at h
 by_cases h6:op=39
 ·rw[if_pos h6] at h;cases h;omega
 rw[if_neg h6] at h
 by_cases h7:op=40
 ·rw[if_pos h7] at h;cases h;omega
 rw[if_neg h7] at h
 by_cases c0:op=43\/op=44\/op=46\/op=47
 ·rw[if_pos c0] at h;cases h;omega
 rw[if_neg c0] at h
 by_cases c1:op=48
 ·rw[if_pos c1] at h;cases h;omega
 rw[if_neg c1] at h
 by_cases h10:op=49
 ·rw[if_pos h10] at h;cases h;omega
 rw[if_neg h10] at h
 by_cases h11:op=50
 ·rw[if_pos h11] at h;cases h;omega
 rw[if_neg h11] at h
 by_cases h12:op=51
 ·rw[if_pos h12] at h;cases h;omega
 rw[if_neg h12] at h;cases h
end Go.Proofs.YtncijebklnbhlaaGreatDoor.Vm
end
