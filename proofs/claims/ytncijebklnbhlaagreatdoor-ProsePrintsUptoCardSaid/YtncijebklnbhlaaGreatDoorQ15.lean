/- Part 15 of the proof. Conditions: none. -/
import Derived.Test.YtncijebklnbhlaaGreatDoorQ14
set_option linter.all false
set_option linter.unusedVariables false
set_option linter.unusedSimpArgs false
section
namespace Go.Proofs.YtncijebklnbhlaaGreatDoor.Vm
open Go.RowKit
set_option maxRecDepth 100000
set_option maxHeartbeats 4000000
section
section
variable {nm ar X Y Z A B P S T:ByteArray} {op n:Int} {has:Bool} {x5 x6 x7 x8:D} {K:List (List D)} {b c e:Nat->D}
theorem c1O  : j5 8 [.ag (nC 32 nm ar n has x5 x6 x7 x8 K)] [.one (.sc (.string nm))]:=wt Tryz.func8 rfl
theorem c1P (h0:j5 15 [.one (.sc (.int .i64 n))] [.one (.sc (.string S))]):j5 8 [.ag (nC 33 nm ar n has x5 x6 x7 x8 K)] [.one (.sc (.string S))]:=wt Tryz.func8 rfl
theorem c0Z (hn:(n == 1)=true):j5 8 [.ag (nC 34 nm ar n has x5 x6 x7 x8 K)] [.one (.sc (.string ⟨⟨[116,114,117,101]⟩⟩))]:=by
 refine C2 Tryz.func8 rfl ?_;intro _ _ _ _ _ _ _ _ _ qj;intros;rename_i hA;have q0:=(l7 hA).2.2.2.2.2.2.2.2;have q1:qj n 1=true:=by rw[q0,hn]
 iterate 2 (try cbv;repeat ((first|with_reducible apply j2 hA|rw[q1]|rw[q0]);cbv))
theorem c1a (hn:(n == 1)=false):j5 8 [.ag (nC 34 nm ar n has x5 x6 x7 x8 K)] [.one (.sc (.string ⟨⟨[102,97,108,115,101]⟩⟩))]:=by
 refine C2 Tryz.func8 rfl ?_;intro _ _ _ _ _ _ _ _ _ qj;intros;rename_i hA;have q0:=(l7 hA).2.2.2.2.2.2.2.2;have q1:qj n 1=false:=by rw[q0,hn]
 iterate 2 (try cbv;repeat ((first|with_reducible apply j2 hA|rw[q1]|rw[q0]);cbv))
theorem c1Q (k0:K[0]?=some (tC b)) (h0:j5 16 [.ag (nC 35 nm ar n has x5 x6 x7 x8 K)] [.one (.sc (.string P))]) (z0:Fz P) (h1:j5 8 [.ag (tC b)] [.one (.sc (.string X))]) (z1:Fz X):j5 8 [.ag (nC 35 nm ar n has x5 x6 x7 x8 K)] [.one (.sc (.string (⟨⟨[102,117,110,32]⟩⟩++P++⟨⟨[32,61,62,32]⟩⟩++X)))]:=wt Tryz.func8 rfl
theorem c1R (k0:K[0]?=some (tC b)) (h0:j5 16 [.ag (nC 36 nm ar n has x5 x6 x7 x8 K)] [.one (.sc (.string P))]) (z0:Fz P) (h1:j5 8 [.ag (tC b)] [.one (.sc (.string X))]) (z1:Fz X) (zn:Fz nm):j5 8 [.ag (nC 36 nm ar n has x5 x6 x7 x8 K)] [.one (.sc (.string (⟨⟨[114,101,99,32]⟩⟩++nm++⟨⟨[32]⟩⟩++P++⟨⟨[32,61,62,32]⟩⟩++X)))]:=wt Tryz.func8 rfl
theorem c1S (k0:K[0]?=some (tC b)) (k1:K[1]?=some (tC c)) (h0:j5 17 [.ag (tC b),.one (.sc (.int .i64 3))] [.one (.sc (.string A))]) (z0:Fz A) (h1:j5 17 [.ag (tC c),.one (.sc (.int .i64 4))] [.one (.sc (.string B))]) (z1:Fz B):j5 8 [.ag (nC 37 nm ar n has x5 x6 x7 x8 K)] [.one (.sc (.string (A++⟨⟨[32]⟩⟩++B)))]:=wt Tryz.func8 rfl
theorem c1T (k0:K[0]?=some (tC b)) (k1:K[1]?=some (tC c)) (h0:j5 8 [.ag (tC b)] [.one (.sc (.string X))]) (z0:Fz X) (h1:j5 8 [.ag (tC c)] [.one (.sc (.string Y))]) (z1:Fz Y) (zn:Fz nm):j5 8 [.ag (nC 38 nm ar n has x5 x6 x7 x8 K)] [.one (.sc (.string (⟨⟨[108,101,116,32]⟩⟩++nm++⟨⟨[32,61,32]⟩⟩++X++⟨⟨[32,105,110,32]⟩⟩++Y)))]:=wt Tryz.func8 rfl
theorem c1U (k0:K[0]?=some (tC b)) (k1:K[1]?=some (tC c)) (k2:K[2]?=some (tC e)) (h0:j5 8 [.ag (tC b)] [.one (.sc (.string X))]) (z0:Fz X) (h1:j5 8 [.ag (tC c)] [.one (.sc (.string Y))]) (z1:Fz Y) (h2:j5 8 [.ag (tC e)] [.one (.sc (.string Z))]) (z2:Fz Z):j5 8 [.ag (nC 39 nm ar n has x5 x6 x7 x8 K)] [.one (.sc (.string (⟨⟨[105,102,32]⟩⟩++X++⟨⟨[32,116,104,101,110,32]⟩⟩++Y++⟨⟨[32,101,108,115,101,32]⟩⟩++Z)))]:=wt Tryz.func8 rfl
theorem c1V  : j5 8 [.ag (nC 41 nm ar n has x5 x6 x7 x8 K)] [.one (.sc (.string ⟨⟨[123,125]⟩⟩))]:=wt Tryz.func8 rfl
theorem c1W (h0:j5 19 [.ag (nC 42 nm ar n has x5 x6 x7 x8 K)] [.one (.sc (.string S))]) (z0:Fz S):j5 8 [.ag (nC 42 nm ar n has x5 x6 x7 x8 K)] [.one (.sc (.string (⟨⟨[123]⟩⟩++S++⟨⟨[125]⟩⟩)))]:=wt Tryz.func8 rfl
theorem c1X (k0:K[0]?=some (tC b)) (h0:j5 17 [.ag (tC b),.one (.sc (.int .i64 5))] [.one (.sc (.string A))]) (z0:Fz A) (zn:Fz nm):j5 8 [.ag (nC 43 nm ar n has x5 x6 x7 x8 K)] [.one (.sc (.string (A++⟨⟨[46]⟩⟩++nm)))]:=wt Tryz.func8 rfl
theorem c1Y (k0:K[0]?=some (tC b)) (h0:j5 17 [.ag (tC b),.one (.sc (.int .i64 5))] [.one (.sc (.string A))]) (z0:Fz A) (zn:Fz nm):j5 8 [.ag (nC 44 nm ar n has x5 x6 x7 x8 K)] [.one (.sc (.string (A++⟨⟨[92]⟩⟩++nm)))]:=wt Tryz.func8 rfl
theorem c1Z (k0:K[0]?=some (tC b)) (k1:K[1]?=some (tC c)) (h0:j5 8 [.ag (tC b)] [.one (.sc (.string X))]) (z0:Fz X) (h1:j5 8 [.ag (tC c)] [.one (.sc (.string Y))]) (z1:Fz Y) (zn:Fz nm):j5 8 [.ag (nC 45 nm ar n has x5 x6 x7 x8 K)] [.one (.sc (.string (⟨⟨[123]⟩⟩++nm++⟨⟨[32,58,61,32]⟩⟩++X++⟨⟨[32,124,32]⟩⟩++Y++⟨⟨[125]⟩⟩)))]:=wt Tryz.func8 rfl
theorem c2a (k0:K[0]?=some (tC b)) (h0:j5 17 [.ag (tC b),.one (.sc (.int .i64 4))] [.one (.sc (.string A))]) (z0:Fz A) (zn:Fz nm):j5 8 [.ag (nC 46 nm ar n has x5 x6 x7 x8 K)] [.one (.sc (.string (⟨⟨[64]⟩⟩++nm++⟨⟨[32]⟩⟩++A)))]:=wt Tryz.func8 rfl
theorem c2b (k0:K[0]?=some (tC b)) (h0:j5 17 [.ag (tC b),.one (.sc (.int .i64 4))] [.one (.sc (.string A))]) (z0:Fz A) (zn:Fz nm):j5 8 [.ag (nC 47 nm ar n has x5 x6 x7 x8 K)] [.one (.sc (.string (⟨⟨[94]⟩⟩++nm++⟨⟨[32]⟩⟩++A)))]:=wt Tryz.func8 rfl
theorem c2c (k0:K[0]?=some (tC b)) (h0:j5 8 [.ag (tC b)] [.one (.sc (.string X))]) (z0:Fz X) (zn:Fz nm) (za:Fz ar):j5 8 [.ag (nC 49 nm ar n has x5 x6 x7 x8 K)] [.one (.sc (.string (nm++⟨⟨[32]⟩⟩++ar++⟨⟨[32,61,62,32]⟩⟩++X)))]:=wt Tryz.func8 rfl
theorem c2d (k0:K[0]?=some (tC b)) (h0:j5 8 [.ag (tC b)] [.one (.sc (.string X))]) (z0:Fz X) (za:Fz ar):j5 8 [.ag (nC 50 nm ar n has x5 x6 x7 x8 K)] [.one (.sc (.string (⟨⟨[101,108,115,101,32]⟩⟩++ar++⟨⟨[32,61,62,32]⟩⟩++X)))]:=wt Tryz.func8 rfl
theorem c2e (k0:K[0]?=some (tC b)) (h0:j5 8 [.ag (tC b)] [.one (.sc (.string X))]) (z0:Fz X) (h1:j5 20 [.ag [x5,x6,x7,x8]] [.one (.sc (.string T))]) (z1:Fz T):j5 8 [.ag (nC 51 nm ar n has x5 x6 x7 x8 K)] [.one (.sc (.string (⟨⟨[40]⟩⟩++X++⟨⟨[32,58,32]⟩⟩++T++⟨⟨[41]⟩⟩)))]:=wt Tryz.func8 rfl
end
end
end Go.Proofs.YtncijebklnbhlaaGreatDoor.Vm
end
