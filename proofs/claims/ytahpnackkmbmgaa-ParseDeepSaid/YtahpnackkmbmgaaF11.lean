/- Part 11 of the proof. Conditions: none. -/
import Derived.Test.YtahpnackkmbmgaaF4
import Derived.Test.YtahpnackkmbmgaaF10
import Derived.Test.YtahpnackkmbmgaaF0
set_option linter.all false
set_option linter.unusedVariables false
set_option linter.unusedSimpArgs false
section
namespace Go.Proofs.Ytahpnackkmbmgaa.Vm
open Go.RowKit
set_option maxRecDepth 100000
set_option maxHeartbeats 4000000
def a8D (op:Int):ByteArray:=if op=4 then ⟨#[116,116]⟩ else if op=5∨op=6 then ⟨#[114]⟩ else if op=11 then ⟨#[116,114]⟩ else ⟨#[]⟩
theorem b0f {op:Int} {kk:List Int} (h:N6 op=some kk):kk=(btl (a8D op)).map fun c=>(c.toNat:Int):=by
 unfold N6 at h
 repeat' split at h
 all_goals first|(cases h;done)|skip
 all_goals
  cases h
  rename_i h
  rcases h with h
  first
  | (rcases h with h|h|h|h|h|h|h <;> subst h <;> rfl)
  | (rcases h with h|h <;> subst h <;> rfl)
  | (subst h;rfl)
def hdF (ok a8 e114 hl e11 w em nlt e7 e10 n0:Bool):Bool:=ok && ((a8 == e114) && (hl && ((match e11 with|true=>w|false=>em) && (!nlt && (e7 || (e10 || n0))))))
theorem c2s (op:Int) (nm:ByteArray) (n:Int) (ks:List Ty) (s:Int):a5n B2 (.mk op nm n ks) s=hdF (N6 op).isSome (decide (8≤op)) (s == 114) (decide (ks.length=(a8D op).size)) (op == 11) (B2 nm) (decide (nm.toList=[])) (decide (n<0)) (op == 7) (op == 10) (n == 0):=by
 show (match N6 op with|none=>false|some k=>(decide (8≤op) == (s == 114)) && (decide (ks.length=k.length) && ((if op=11 then B2 nm else decide (nm.toList=[])) && (decide (0≤n) && (decide (op=7∨op=10) || decide (n=0))))))=_
 unfold hdF
 cases h:N6 op with
 | none=>rfl
 | some kk =>
  show ((decide (8≤op) == (s == 114)) && (decide (ks.length=kk.length) && ((if op=11 then B2 nm else decide (nm.toList=[])) && (decide (0≤n) && (decide (op=7∨op=10) || decide (n=0))))))=_
  have hk:=b0f h
  have hl:kk.length=(a8D op).size:=by rw [hk,c9r,L4]
  rw [hl]
  have e11:(if op=11 then B2 nm else decide (nm.toList=[]))=(match op == 11 with|true=>B2 nm|false=>decide (nm.toList=[])):=by
   by_cases h:op=11
   ·subst h;rfl
   ·rw [c8W h,c94.2 h]
  have en:decide (0≤n)=!decide (n<0):=by by_cases h:n<0 <;> simp [h] <;> omega
  have eo:decide (op=7∨op=10)=((op == 7) || (op == 10)):=by by_cases h:op=7 <;> by_cases h':op=10 <;> simp [h,h']
  have e0:decide (n=0)=(n == 0):=by by_cases h:n=0 <;> simp [h]
  rw [e11,en,eo,e0]
  simp only [Option.isSome_some,d0N,Bool.or_assoc]
end Go.Proofs.Ytahpnackkmbmgaa.Vm
end
