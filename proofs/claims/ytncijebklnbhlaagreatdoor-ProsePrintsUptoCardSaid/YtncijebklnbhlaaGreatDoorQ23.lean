/- Part 23 of the proof. Conditions: none. -/
import Derived.Test.YtncijebklnbhlaaGreatDoorQ4
import Derived.Test.YtncijebklnbhlaaGreatDoorQ13
import Derived.Test.YtncijebklnbhlaaGreatDoorQ22
set_option linter.all false
set_option linter.unusedVariables false
set_option linter.unusedSimpArgs false
section
namespace Go.Proofs.YtncijebklnbhlaaGreatDoor.Vm
open Go.RowKit
set_option maxRecDepth 100000
set_option maxHeartbeats 4000000
section
theorem b9S (t:Ty):j5 31 [.ag (cT t)] [.one (.sc (.bool (J7 t)))]:=by
 obtain⟨op,nm,n,ks⟩:=t;obtain⟨c1,h1⟩:∃c,c=(nm.data.toList == []):=⟨_,rfl⟩;obtain⟨c0,h0⟩:∃c,c=(op == 0):=⟨_,rfl⟩;obtain⟨c2,h2⟩:∃c,c=(n == 0):=⟨_,rfl⟩;have h3:((rT ks).length:Int)=(ks.length:Int):=by rw[L4]
 have h4:ks.isEmpty=((ks.length:Int) == 0):=by
  cases ks with
  | nil=>rfl
  | cons k ks=>exact(beq_false_of_ne (show ((k::ks).length:Int)≠0 by rw[List.length_cons];omega)).symm
 rw[J7,<-h0,<-h1,<-h2,h4,cT];obtain⟨c3,h5⟩:∃c,c=((ks.length:Int) == 0):=⟨_,rfl⟩;rw[<-h5];obtain⟨m,hm⟩:∃m:Int,m=(ks.length:Int):=⟨_,rfl⟩;rw[<-hm] at h3 h5;generalize rT ks=K at *;clear h4 hm;refine C2 Tryz.func31 rfl ?_;intro _ _ _ _ _ _ _ _ _ _ _ ql _ qo;intros;rename_i hA;obtain⟨s1,s2,s3,s4,s5,s6,-⟩:=o8 hA;have q0:=eb hA h0.symm;have q1:ql (qo nm) (qo ⟨⟨[]⟩⟩)=c1:=by rw[s1,s3,s3,h1];exact a6Y nm
 have q2:=eb hA h2.symm;have q3:=en hA h3;have q4:=eb hA h5.symm;cases c0
 ·try cbv;exact fr
 cases c1
 ·try cbv;exact fr
 cases c2
 ·try cbv;exact fr
 ·try cbv;exact fr
abbrev b1S (p:ByteArray) (c:Int) (b:Bool):Prop:=j5 29 [.one (.sc (.string p)),.one (.sc (.int .u8 c))] [.one (.sc (.bool b))]
abbrev c1h (s:ByteArray) (b:Bool):Prop:=j5 30 [.one (.sc (.string s))] [.one (.sc (.bool b))]
section
variable {op n:Int} {nm ar p:ByteArray} {x y z v k:D}
end
end
end Go.Proofs.YtncijebklnbhlaaGreatDoor.Vm
end
