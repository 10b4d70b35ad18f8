/- Part 1 of the proof. Conditions: none. -/
import Derived.Test.YtncijebklnbhlaaGreatDoorChecked
import Derived.WalkKit
import Derived.Lib.Hide
import Derived.Deep.Draws
import Derived.Laws.Rows
import Derived.Maps.AppendAt
import Derived.Deep.AppendLies
import Derived.RegionTactic
import Derived.OwnWalk
import Derived.WalkSpells
import Derived.Laws.Tables
import Derived.Laws.CopyRow
import Derived.OrdersIn
import Derived.Laws.Slices
import Derived.Laws.StructEq
import Derived.Maps.Keyed
set_option linter.all false
set_option linter.unusedVariables false
set_option linter.unusedSimpArgs false
section
namespace Go.Proofs.YtncijebklnbhlaaGreatDoor.Vm
open Go.RowKit
set_option maxRecDepth 100000
set_option maxHeartbeats 4000000
inductive TK where
 | int (k:IntKind)
 | bool
 | str
 | slice
 | struct
 | array
 | map
 | ptr
 | other
structure TI where
 kind:TK:=.other
 agg:Bool:=false
 sz:Nat:=1
 zero:List Value:=[]
 flds:List (Nat×Nat):=[]
 fty:List Nat:=[]
 elem:Option Nat:=none
 key:Option Nat:=none
 val:Option Nat:=none
 alen:Nat:=0
def a9m:Option TypeDesc->Option Bool
 | some (.struct _)=>some true
 | some (.array _ _)=>some true
 | some _=>some false
 | none=>none
def b0G (P:Program):Option TypeDesc->Option (List (Nat×Option Nat)×List Nat)
 | some (.struct fs)=>some (fs.toList.map (λf=>(f.offset,(P.info? f.type).map (·.size))),fs.toList.map (·.type))
 | _=>none
def a0q (P:Program) (t:Nat) (i:TI):Prop:=match i.kind with
 | .int k=>P.underlying t=some (.int k)
 | .bool=>P.underlying t=some .bool
 | .str=>P.underlying t=some .string
 | .slice=>P.underlying t=i.elem.map .slice/\i.elem.isSome=true
 | .ptr=>P.underlying t=i.val.map .pointer/\i.val.isSome=true
 | .array=>P.underlying t=i.val.map (.array i.alen)/\i.val.isSome=true
 | .map=>P.underlying t=(i.key.bind λk=>i.val.map λe=>.map k e)/\i.key.isSome=true/\i.val.isSome=true
 | .struct=>b0G P (P.underlying t)=some (i.flds.map (λx=>(x.1,some x.2)),i.fty)
 | _=>True
def b4d:Value->Bool
 | .agg _=>true
 | _=>false
structure TyOk (P:Program) (t:Nat) (i:TI):Prop where
 info:(P.info? t).map (λx=>(x.size,x.zero.map Value.cells))=some (i.sz,some i.zero.toArray)
 len:i.zero.length=i.sz
 zag:((P.info? t).bind (·.zero)).map b4d=some i.agg
 bytes:((P.info? t).map λx=>decide (x.bytes<=1024))=some true
 agg:a9m (P.underlying t)=some i.agg
 under:a0q P t i
 elem:(match i.kind with|.slice=>true|_=>i.elem.isNone)=true
 flds:(match i.kind with|.struct=>true|_=>i.flds.isEmpty)=true
def ty (n:Nat):TI:=match Nat.blt n 73 with|true=>(match Nat.blt n 27 with|true=>(match Nat.blt n 15 with|true=>(match Nat.blt n 5 with|true=>(match Nat.blt n 2 with|true=>(match Nat.blt n 1 with|true=>{ kind:=.other }|false=>{ sz:=1,zero:=[.nilFunc] })|false=>(match Nat.blt n 4 with|true=>{ kind:=.int .i64,sz:=1,zero:=[.int .i64 0] }|false=>{ kind:=.bool,sz:=1,zero:=[.bool false] }))|false=>(match Nat.blt n 9 with|true=>(match Nat.blt n 7 with|true=>{ kind:=.int .u8,sz:=1,zero:=[.int .u8 0] }|false=>{ kind:=.struct,agg:=true,sz:=4,zero:=[.int .i64 0,.int .i64 0,.bool false,.int .u8 0],flds:=[(0,1),(1,1),(2,1),(3,1)],fty:=[2,3,4,6] })|false=>(match Nat.blt n 12 with|true=>{ kind:=.str,sz:=1,zero:=[.string ⟨#[]⟩] }|false=>(match Nat.blt n 13 with|true=>{ kind:=.int .u64,sz:=1,zero:=[.int .u64 0] }|false=>{ kind:=.struct,agg:=true,sz:=2,zero:=[.string ⟨#[]⟩,.int .u64 0],flds:=[(0,1),(1,1)],fty:=[9,12] }))))|false=>(match Nat.blt n 21 with|true=>(match Nat.blt n 17 with|true=>(match Nat.blt n 16 with|true=>{ kind:=.ptr,sz:=1,zero:=[.pointer none],val:=some 137 }|false=>{ kind:=.ptr,sz:=1,zero:=[.pointer none],val:=some 140 })|false=>(match Nat.blt n 18 with|true=>{ kind:=.ptr,sz:=1,zero:=[.pointer none],val:=some 148 }|false=>(match Nat.blt n 20 with|true=>{ kind:=.struct,agg:=true,sz:=1,zero:=[.pointer none],flds:=[(0,1)],fty:=[17] }|false=>{ sz:=1,zero:=[.nilIface] })))|false=>(match Nat.blt n 23 with|true=>(match Nat.blt n 22 with|true=>{ kind:=.int .i32,sz:=1,zero:=[.int .i32 0] }|false=>{ kind:=.int .u8,sz:=1,zero:=[.int .u8 0] })|false=>(match Nat.blt n 24 with|true=>{ kind:=.slice,sz:=1,zero:=[.slice none 0 0],elem:=some 25 }|false=>(match Nat.blt n 26 with|true=>{ kind:=.struct,agg:=true,sz:=4,zero:=[.int .u8 0,.string ⟨#[]⟩,.int .i64 0,.slice none 0 0],flds:=[(0,1),(1,1),(2,1),(3,1)],fty:=[22,9,3,23] }|false=>{ kind:=.slice,sz:=1,zero:=[.slice none 0 0],elem:=some 28 })))))|false=>(match Nat.blt n 54 with|true=>(match Nat.blt n 47 with|true=>(match Nat.blt n 31 with|true=>(match Nat.blt n 29 with|true=>{ kind:=.struct,agg:=true,sz:=10,zero:=[.int .u8 0,.string ⟨#[]⟩,.string ⟨#[]⟩,.int .i64 0,.bool false,.int .u8 0,.string ⟨#[]⟩,.int .i64 0,.slice none 0 0,.slice none 0 0],flds:=[(0,1),(1,1),(2,1),(3,1),(4,1),(5,4),(9,1)],fty:=[22,9,9,2,4,25,26] }|false=>{ sz:=1,zero:=[.nilFunc] })|false=>(match Nat.blt n 32 with|true=>{ kind:=.int .u8,sz:=1,zero:=[.int .u8 0] }|false=>(match Nat.blt n 33 with|true=>{ kind:=.other }|false=>{ sz:=1,zero:=[.nilFunc] })))|false=>(match Nat.blt n 49 with|true=>(match Nat.blt n 48 with|true=>{ kind:=.int .i64,sz:=1,zero:=[.int .i64 0] }|false=>{ kind:=.slice,sz:=1,zero:=[.slice none 0 0],elem:=some 9 })|false=>(match Nat.blt n 52 with|true=>{ sz:=1,zero:=[.nilFunc] }|false=>(match Nat.blt n 53 with|true=>{ kind:=.slice,sz:=1,zero:=[.slice none 0 0],elem:=some 3 }|false=>{ sz:=1,zero:=[.nilFunc] }))))|false=>(match Nat.blt n 64 with|true=>(match Nat.blt n 56 with|true=>(match Nat.blt n 55 with|true=>{ kind:=.slice,sz:=1,zero:=[.slice none 0 0],elem:=some 5 }|false=>{ sz:=1,zero:=[.nilFunc] })|false=>(match Nat.blt n 58 with|true=>{ kind:=.struct,agg:=true,sz:=4,zero:=[.bool false,.bool false,.int .i64 0,.int .i64 0],flds:=[(0,1),(1,1),(2,1),(3,1)],fty:=[4,4,3,3] }|false=>(match Nat.blt n 59 with|true=>{ kind:=.other }|false=>{ sz:=1,zero:=[.nilFunc] })))|false=>(match Nat.blt n 70 with|true=>(match Nat.blt n 65 with|true=>{ kind:=.other }|false=>{ sz:=1,zero:=[.nilFunc] })|false=>(match Nat.blt n 71 with|true=>{ kind:=.slice,sz:=1,zero:=[.slice none 0 0],elem:=some 74 }|false=>(match Nat.blt n 72 with|true=>{ kind:=.other }|false=>{ sz:=1,zero:=[.nilFunc] }))))))|false=>(match Nat.blt n 112 with|true=>(match Nat.blt n 93 with|true=>(match Nat.blt n 80 with|true=>(match Nat.blt n 76 with|true=>(match Nat.blt n 75 with|true=>{ kind:=.struct,agg:=true,sz:=5,zero:=[.string ⟨#[]⟩,.int .u8 0,.string ⟨#[]⟩,.int .i64 0,.slice none 0 0],flds:=[(0,1),(1,4)],fty:=[9,25] }|false=>{ kind:=.array,agg:=true,sz:=24,zero:=[.int .u8 0,.int .u8 0,.int .u8 0,.int .u8 0,.int .u8 0,.int .u8 0,.int .u8 0,.int .u8 0,.int .u8 0,.int .u8 0,.int .u8 0,.int .u8 0,.int .u8 0,.int .u8 0,.int .u8 0,.int .u8 0,.int .u8 0,.int .u8 0,.int .u8 0,.int .u8 0,.int .u8 0,.int .u8 0,.int .u8 0,.int .u8 0],val:=some 5,alen:=24 })|false=>(match Nat.blt n 77 with|true=>{ kind:=.int .u64,sz:=1,zero:=[.int .u64 0] }|false=>(match Nat.blt n 79 with|true=>{ sz:=1,zero:=[.nilFunc] }|false=>{ kind:=.other })))|false=>(match Nat.blt n 85 with|true=>(match Nat.blt n 84 with|true=>{ sz:=1,zero:=[.nilFunc] }|false=>{ kind:=.other })|false=>(match Nat.blt n 88 with|true=>{ sz:=1,zero:=[.nilFunc] }|false=>(match Nat.blt n 90 with|true=>{ kind:=.map,sz:=1,zero:=[.map none],key:=some 3,val:=some 4 }|false=>{ sz:=1,zero:=[.nilFunc] }))))|false=>(match Nat.blt n 98 with|true=>(match Nat.blt n 95 with|true=>(match Nat.blt n 94 with|true=>{ kind:=.array,agg:=true,sz:=20,zero:=[.int .u64 0,.int .u64 0,.int .u64 0,.int .u64 0,.int .u64 0,.int .u64 0,.int .u64 0,.int .u64 0,.int .u64 0,.int .u64 0,.int .u64 0,.int .u64 0,.int .u64 0,.int .u64 0,.int .u64 0,.int .u64 0,.int .u64 0,.int .u64 0,.int .u64 0,.int .u64 0],val:=some 76,alen:=20 }|false=>{ kind:=.int .u32,sz:=1,zero:=[.int .u32 0] })|false=>(match Nat.blt n 96 with|true=>{ kind:=.other }|false=>(match Nat.blt n 97 with|true=>{ sz:=1,zero:=[.nilFunc] }|false=>{ kind:=.int .u64,sz:=1,zero:=[.int .u64 0] })))|false=>(match Nat.blt n 100 with|true=>(match Nat.blt n 99 with|true=>{ sz:=1,zero:=[.nilFunc] }|false=>{ kind:=.ptr,sz:=1,zero:=[.pointer none],val:=some 101 })|false=>(match Nat.blt n 102 with|true=>{ kind:=.struct,agg:=true,sz:=2,zero:=[.pointer none,.slice none 0 0],flds:=[(0,1),(1,1)],fty:=[99,54] }|false=>(match Nat.blt n 104 with|true=>{ kind:=.struct,agg:=true,sz:=2,zero:=[.pointer none,.slice none 0 0],flds:=[(0,2)],fty:=[101] }|false=>{ sz:=1,zero:=[.nilFunc] })))))|false=>(match Nat.blt n 129 with|true=>(match Nat.blt n 119 with|true=>(match Nat.blt n 115 with|true=>(match Nat.blt n 113 with|true=>{ kind:=.ptr,sz:=1,zero:=[.pointer none],val:=some 103 }|false=>{ sz:=1,zero:=[.nilIface] })|false=>(match Nat.blt n 116 with|true=>{ kind:=.other }|false=>(match Nat.blt n 118 with|true=>{ sz:=1,zero:=[.nilFunc] }|false=>{ kind:=.ptr,sz:=1,zero:=[.pointer none],val:=some 5 })))|false=>(match Nat.blt n 121 with|true=>(match Nat.blt n 120 with|true=>{ sz:=1,zero:=[.nilFunc] }|false=>{ kind:=.other })|false=>(match Nat.blt n 122 with|true=>{ kind:=.array,agg:=true,sz:=32,zero:=[.int .u8 0,.int .u8 0,.int .u8 0,.int .u8 0,.int .u8 0,.int .u8 0,.int .u8 0,.int .u8 0,.int .u8 0,.int .u8 0,.int .u8 0,.int .u8 0,.int .u8 0,.int .u8 0,.int .u8 0,.int .u8 0,.int .u8 0,.int .u8 0,.int .u8 0,.int .u8 0,.int .u8 0,.int .u8 0,.int .u8 0,.int .u8 0,.int .u8 0,.int .u8 0,.int .u8 0,.int .u8 0,.int .u8 0,.int .u8 0,.int .u8 0,.int .u8 0],val:=some 5,alen:=32 }|false=>(match Nat.blt n 123 with|true=>{ kind:=.other }|false=>{ sz:=1,zero:=[.nilFunc] }))))|false=>(match Nat.blt n 141 with|true=>(match Nat.blt n 136 with|true=>(match Nat.blt n 130 with|true=>{ sz:=1,zero:=[.pointer none] }|false=>{ sz:=1,zero:=[.nilFunc] })|false=>(match Nat.blt n 138 with|true=>{ kind:=.struct,agg:=true,sz:=4,zero:=[.pointer none,.pointer none,.pointer none,.string ⟨#[]⟩],flds:=[(0,1),(1,1),(2,1),(3,1)],fty:=[17,17,17,9] }|false=>(match Nat.blt n 139 with|true=>{ kind:=.array,agg:=true,sz:=0,zero:=[],val:=some 16,alen:=0 }|false=>{ kind:=.struct,agg:=true,sz:=0,zero:=[],flds:=[(0,0)],fty:=[138] })))|false=>(match Nat.blt n 144 with|true=>(match Nat.blt n 142 with|true=>{ sz:=1,zero:=[.nilFunc] }|false=>{ kind:=.int .u8,sz:=1,zero:=[.int .u8 0] })|false=>(match Nat.blt n 145 with|true=>{ sz:=1,zero:=[.nilFunc] }|false=>(match Nat.blt n 147 with|true=>{ kind:=.int .i32,sz:=1,zero:=[.int .i32 0] }|false=>{ kind:=.struct,agg:=true,sz:=11,zero:=[.int .u64 0,.int .u64 0,.int .u32 0,.int .u8 0,.int .u8 0,.int .u8 0,.int .u8 0,.nilFunc,.pointer none,.int .i32 0,.int .i32 0],flds:=[(0,1),(1,1),(2,1),(3,1),(4,1),(5,1),(6,1),(7,1),(8,1),(9,1),(10,1)],fty:=[12,12,94,142,5,5,143,144,118,145,146] }))))))
def b7W:List Nat:=[57]
def b0H (P:Program) (t:Nat):Bool:=(!P.stoodInHeld t && !P.eqGuardType P.depth t) && (match P.underlying t with|some (.struct fs)=>fs.toList.all (λf=>f.name != "_")|_=>false)
theorem b1U:∀t∈b7W,b0H Tryz.prog t=true:=List.forall_mem_cons.2 ⟨by kernel_rfl,(λ_ h=>by cases h)⟩
def b4e:List Nat:=[1,2,3,4,5,6,7,8,9,10,11,12,13,14,15,16,17,18,19,20,21,22,23,24,25,26,27,28,29,30,31,33,34,35,36,37,38,39,40,41,42,43,44,45,46,47,48,49,50,51,52,53,54,55,56,57,59,60,61,62,63,65,66,67,68,69,70,72,73,74,75,76,77,78,80,81,82,83,85,86,87,88,89,90,91,92,93,94,96,97,98,99,100,101,102,103,104,105,106,107,108,109,110,111,112,113,114,116,117,118,119,121,123,124,125,126,127,128,129,130,131,132,133,134,135,136,137,138,139,140,141,142,143,144,145,146,147,148]
def j6 (t:Nat):Bool:=b4e.contains t
def tabsOf:List (String×IntKind×List Int):=[("internal/strconv.uint64pow10",.u64,[1,10,100,1000,10000,100000,1000000,10000000,100000000,1000000000,10000000000,100000000000,1000000000000,10000000000000,100000000000000,1000000000000000,10000000000000000,100000000000000000,1000000000000000000,10000000000000000000]),("math/bits.deBruijn32tab",.u8,[0,1,28,2,29,14,24,3,30,22,20,15,25,17,4,8,31,27,13,23,21,19,16,7,26,12,18,6,11,5,10,9]),("math/bits.deBruijn64tab",.u8,[0,1,56,2,57,49,28,3,61,58,42,50,38,29,17,4,62,47,59,36,45,43,51,22,53,39,33,30,24,18,12,5,63,55,48,27,60,41,37,16,46,35,44,21,52,32,23,11,54,26,40,15,34,20,31,10,25,14,19,9,13,8,7,6])]
def tyL (P:Program) (t:Nat) (i:TI):Option TypeDesc×Option (List (Nat×Option Nat)×List Nat)×Bool:=match i.kind with
 | .slice=>(P.underlying t,none,i.elem.isSome)
 | .ptr|.array=>(P.underlying t,none,i.val.isSome)
 | .map=>(P.underlying t,none,i.key.isSome && i.val.isSome)
 | .struct=>(none,b0G P (P.underlying t),true)
 | .other=>(none,none,true)
 | _=>(P.underlying t,none,true)
def tyR (i:TI):Option TypeDesc×Option (List (Nat×Option Nat)×List Nat)×Bool:=match i.kind with
 | .int k=>(some (.int k),none,true)
 | .bool=>(some .bool,none,true)
 | .str=>(some .string,none,true)
 | .slice=>(i.elem.map .slice,none,true)
 | .ptr=>(i.val.map .pointer,none,true)
 | .array=>(i.val.map (.array i.alen),none,true)
 | .map=>(i.key.bind λk=>i.val.map λe=>.map k e,none,true)
 | .struct=>(none,some (i.flds.map (λx=>(x.1,some x.2)),i.fty),true)
 | .other=>(none,none,true)
def b4f (P:Program) (t:Nat) (i:TI):=((P.info? t).map (λx=>(x.size,x.zero.map Value.cells)),i.zero.length,((P.info? t).bind (·.zero)).map b4d,(P.info? t).map (λx=>decide (x.bytes<=1024)),a9m (P.underlying t),tyL P t i,(match i.kind with|.slice=>true|_=>i.elem.isNone),(match i.kind with|.struct=>true|_=>i.flds.isEmpty))
def b4g (i:TI):Option (Nat×Option (Array Value))×Nat×Option Bool×Option Bool×Option Bool×(Option TypeDesc×Option (List (Nat×Option Nat)×List Nat)×Bool)×Bool×Bool:=(some (i.sz,some i.zero.toArray),i.sz,some i.agg,some true,some i.agg,tyR i,true,true)
theorem TyOk.of {P:Program} {t:Nat} {i:TI} (h:b4f P t i=b4g i):TyOk P t i:=by
 unfold b4f b4g at h;simp only[Prod.mk.injEq] at h;obtain⟨h1,h2,h3,h4,h5,h6,h7,h8⟩:=h;refine⟨h1,h2,h3,h4,h5,?_,h7,h8⟩;unfold tyL tyR at h6;unfold a0q;cases hk:i.kind <;> simp only[hk,Prod.mk.injEq,Bool.and_eq_true,and_true,true_and] at h6 ⊢ <;> first|exact h6|trivial
theorem c0a:b4e.map (λt=>b4f Tryz.prog t (ty t))=b4e.map (λt=>b4g (ty t)):=by kernel_rfl
theorem b1V {α β:Type} {f g:α->β}:∀ {l:List α},l.map f=l.map g->∀x∈l,f x=g x
 | a::l,h,x,hx=>by
  rw[List.map_cons,List.map_cons] at h;injection h with h1 h2;cases hx with
  | head=>exact h1
  | tail _ hx=>exact b1V h2 x hx
theorem a29 (t:Nat) (h:j6 t=true):TyOk Tryz.prog t (ty t):=TyOk.of (b1V c0a t (by unfold j6 at h;simpa using h))
inductive D where
 | sc (v:Value)
 | sl (sz:Nat) (rows:List (List D))
inductive R where
 | one (x:D)
 | ag (xs:List D)
inductive V where
 | d (x:D)
 | ag (cs:List V)
 | tu (vs:List V)
 | em
 | own (k:Nat)
 | ptr (k off:Nat)
 | cl (f:Nat) (ks:List Nat)
 | el (k:Nat) (i:Int) (sz off:Nat)
 | ro (cs:List D) (off:Nat)
 | mp (k:Nat)
 | bs (k n:Nat)
 | jk
inductive O where
 | box (cs:List V)
 | row (z:Bool) (e:Nat) (rows:List (List D))
 | mp (kt:Nat) (es:List (R×R))
 | kl (ks:List Nat)
 | it (P:World->Value->List Nat->Prop)
 | ob (T:Nat) (vs:List Value)
 | dead
structure S where
 t:List V
 o:List O
inductive X where
 | normal
 | exit (id:Nat)
 | ret
def a8i (N:S->Prop) (K:X->S->Prop):X->S->Prop
 | .normal,s=>N s
 | .exit i,s=>K (.exit i) s
 | .ret,s=>K .ret s
structure Ar where
 wrap:IntKind->Int->Int
 add:Int->Int->Int
 sub:Int->Int->Int
 mul:Int->Int->Int
 quo:Int->Int->Int
 rem:Int->Int->Int
 bits:BinOp->IntKind->Int->IntKind->Int->Option Int
 lt:Int->Int->Bool
 le:Int->Int->Bool
 eq:Int->Int->Bool
 nz:Int->Prop->Prop
 seq:List UInt8->List UInt8->Bool
 slt:List UInt8->List UInt8->Bool
 bytes:ByteArray->List UInt8
 cat:ByteArray->ByteArray->ByteArray
 fits:ByteArray->ByteArray->Prop->Prop
 slen:ByteArray->Int
 sget:ByteArray->Int->Option Int
 ssub:ByteArray->Int->Int->Option ByteArray
 txt:List (List D)->Option ByteArray
 byt:ByteArray->List (List D)
 nat:Int->Nat->Option Nat
 len:List (List D)->Int
 get:List (List D)->Int->Option (List D)
 sub2:List (List D)->Int->Int->Option (List (List D))
 app:List (List D)->List (List D)->List (List D)
 set:List (List D)->Int->List D->List (List D)
 room:List (List D)->List (List D)->Prop->Prop
 mlook:List (R×R)->R->Option R
 mput:List (R×R)->R->R->List (R×R)
 deq:List D->List D->Bool
 rep:Int->List D->(List (List D)->Prop)->Prop
 call:Nat->List R->(List R->Prop)->Prop
 calld:Nat->List V->List O->(V->Prop)->Prop
 callo:Nat->List V->S->(V->S->Prop)->Prop
 callx:Nat->List V->List Nat->S->(V->S->Prop)->Prop
 new:Nat->(Bool->Prop)->Prop
 lit:Nat->(Bool->Prop)->Prop
 keep:Nat->(List V->List O->Prop)->List V->S->Prop
 next:(S->Prop)->S->Prop
 ext:Op->Option Nat->S->(S->Prop)->Prop
 reg:Array Oper->S->(S->Prop)->Prop
 loop:Code->(S->(X->S->Prop)->Prop)->S->(X->S->Prop)->Prop
def o6:List V->Nat->V
 | [],_=>.jk
 | x::_,0=>x
 | _::l,n+1=>o6 l n
def I4:List V->Nat->V->List V
 | [],_,_=>[]
 | _::l,0,v=>v::l
 | x::l,n+1,v=>x::I4 l n v
def y5:List O->Nat->O
 | [],_=>.dead
 | x::_,0=>x
 | _::l,n+1=>y5 l n
def J8:List O->Nat->O->List O
 | [],_,_=>[]
 | _::l,0,v=>v::l
 | x::l,n+1,v=>x::J8 l n v
def y8:List O->O->List O
 | [],v=>[v]
 | x::l,v=>x::y8 l v
def o7:List O->Nat
 | []=>0
 | _::l=>o7 l+1
def K9 {α:Type}:Nat->List α->List α
 | 0,l=>l
 | _+1,[]=>[]
 | n+1,_::l=>K9 n l
def H6 {α:Type}:Nat->List α->Option (List α)
 | 0,_=>some []
 | _+1,[]=>none
 | n+1,x::l=>match H6 n l with|some t=>some (x::t)|none=>none
def G5 {α:Type}:List α->Nat
 | []=>0
 | _::l=>G5 l+1
def K7:Nat->Nat->Bool
 | 0,0=>true
 | n+1,m+1=>K7 n m
 | _,_=>false
def splice {α:Type}:List α->Nat->List α->Option (List α)
 | l,0,[]=>some l
 | _::l,0,y::ys=>match splice l 0 ys with|some t=>some (y::t)|none=>none
 | x::l,n+1,ys=>match splice l n ys with|some t=>some (x::t)|none=>none
 | [],_+1,_=>none
 | [],0,_::_=>none
def b3f:V->Bool
 | .d _=>true
 | .em=>true
 | .own _=>true
 | .ptr _ _=>true
 | .cl _ _=>true
 | .el _ _ _ _=>true
 | .ro _ _=>true
 | .mp _=>true
 | .bs _ _=>true
 | _=>false
def a1F:List V->Bool
 | []=>true
 | x::l=>match b3f x with|true=>a1F l|false=>false
def a0r:V->Option (List V)
 | .ag l=>match a1F l with|true=>some l|false=>none
 | .jk=>none
 | .tu _=>none
 | x=>some [x]
def ofD:List D->List V
 | []=>[]
 | x::l=>.d x::ofD l
def b63:R->V
 | .one x=>.d x
 | .ag xs=>.ag (ofD xs)
def a9n:List R->List V
 | []=>[]
 | x::l=>b63 x::a9n l
def b3g:List R->V
 | [r]=>b63 r
 | rs=>.tu (a9n rs)
def toD (os:List O):V->Option D
 | .d x=>some x
 | .cl f []=>some (.sc (.func (.func f) #[] #[]))
 | .em=>some (.sl 0 [])
 | .own k=>match y5 os k with|.row true e rows=>some (.sl (ty e).sz rows)|_=>none
 | _=>none
def a2U (os:List O):List V->Option (List D)
 | []=>some []
 | x::l=>match toD os x with
  | some y=>match a2U os l with|some ys=>some (y::ys)|none=>none
  | none=>none
def toR (os:List O):V->Option R
 | .ag l=>match a2U os l with|some ys=>some (.ag ys)|none=>none
 | x=>match toD os x with|some y=>some (.one y)|none=>none
def a7b (os:List O):List V->Option (List R)
 | []=>some []
 | x::l=>match toR os x with
  | some y=>match a7b os l with|some ys=>some (y::ys)|none=>none
  | none=>none
def a5y (k:Nat):V->V
 | .own j=>match K7 j k with|true=>.jk|false=>.own j
 | .el j i sz off=>match K7 j k with|true=>.jk|false=>.el j i sz off
 | .ag _=>.jk
 | .tu _=>.jk
 | x=>x
def A0 (k:Nat):List V->List V
 | []=>[]
 | x::l=>a5y k x::A0 k l
def C8 (k:Nat):V->V
 | .ag cs=>.ag (A0 k cs)
 | .tu []=>.tu []
 | .tu _=>.jk
 | x=>a5y k x
def E5 (k:Nat):List V->List V
 | []=>[]
 | x::l=>C8 k x::E5 k l
def A6 (k:Nat):List O->List O
 | []=>[]
 | .box cs::l=>.box (A0 k cs)::A6 k l
 | .kl ks::l=>.kl (k::ks)::A6 k l
 | x::l=>x::A6 k l
def a4d:Value->V
 | .slice none 0 0=>.em
 | .agg _=>.jk
 | .tuple _=>.jk
 | v=>.d (.sc v)
def C6:List Value->List V
 | []=>[]
 | x::l=>a4d x::C6 l
def S.get (s:S):Operand->V
 | .tmp i=>o6 s.t i
 | .const v=>a4d v
 | .func f=>.cl f []
 | .global _=>.jk
def S.put (s:S) (d:Option Nat) (v:V):S:=match d with
 | some i=>⟨I4 s.t i v,s.o⟩
 | none=>s
def S.obj (s:S) (o:O):S:=⟨s.t,y8 s.o o⟩
def S.fresh (m:Bool) (s:S) (o:O):S:=match m with
 | true=>s.obj o
 | false=>⟨E5 (o7 s.o) s.t,y8 (A6 (o7 s.o) s.o) o⟩
def vb (b:Bool):V:=.d (.sc (.bool b))
def vi (k:IntKind) (n:Int):V:=.d (.sc (.int k n))
def vs (s:ByteArray):V:=.d (.sc (.string s))
def keq:IntKind->IntKind->Bool
 | .i8,.i8=>true
 | .i16,.i16=>true
 | .i32,.i32=>true
 | .i64,.i64=>true
 | .u8,.u8=>true
 | .u16,.u16=>true
 | .u32,.u32=>true
 | .u64,.u64=>true
 | _,_=>false
def a1h:Bool->Bool
 | true=>false
 | false=>true
def bEq:Bool->Bool->Bool
 | true,true=>true
 | false,false=>true
 | _,_=>false
def orB:Bool->Bool->Bool
 | true,_=>true
 | false,b=>b
def b0I (a:Ar) (k:IntKind) (x y:Int) (K:V->Prop):BinOp->Prop
 | .add=>K (vi k (a.wrap k (a.add x y)))
 | .sub=>K (vi k (a.wrap k (a.sub x y)))
 | .mul=>K (vi k (a.wrap k (a.mul x y)))
 | .quo=>a.nz y (K (vi k (a.wrap k (a.quo x y))))
 | .rem=>a.nz y (K (vi k (a.rem x y)))
 | .eql=>K (vb (a.eq x y))
 | .neq=>K (vb (a1h (a.eq x y)))
 | .lss=>K (vb (a.lt x y))
 | .leq=>K (vb (a.le x y))
 | .gtr=>K (vb (a.lt y x))
 | .geq=>K (vb (a.le y x))
 | _=>False
def b0J (a:Ar) (x y:ByteArray) (K:V->Prop):BinOp->Prop
 | .add=>a.fits x y (K (vs (a.cat x y)))
 | .eql=>K (vb (a.seq (a.bytes x) (a.bytes y)))
 | .neq=>K (vb (a1h (a.seq (a.bytes x) (a.bytes y))))
 | .lss=>K (vb (a.slt (a.bytes x) (a.bytes y)))
 | .gtr=>K (vb (a1h (orB (a.slt (a.bytes x) (a.bytes y)) (a.seq (a.bytes x) (a.bytes y)))))
 | .leq=>K (vb (orB (a.slt (a.bytes x) (a.bytes y)) (a.seq (a.bytes x) (a.bytes y))))
 | .geq=>K (vb (a1h (a.slt (a.bytes x) (a.bytes y))))
 | _=>False
def c0b:BinOp->Bool
 | .and=>true
 | .or=>true
 | .xor=>true
 | .andNot=>true
 | .shl=>true
 | .shr=>true
 | _=>false
def c0c (k:IntKind) (K:V->Prop):Option Int->Prop
 | some n=>K (vi k n)
 | none=>False
def a5z (op:BinOp) (k:IntKind) (x:Int) (k':IntKind) (y:Int):Option Int:=match op with
 | .shl=>match y with|.ofNat n=>some (k.wrap (x * 2 ^ (min n k.bits)))|.negSucc _=>none
 | .shr=>match y with|.ofNat n=>some (x.fdiv (2 ^ (min n k.bits)))|.negSucc _=>none
 | .and=>match keq k k' with|true=>some (k.wrap (BitVec.ofInt k.bits x &&& BitVec.ofInt k.bits y).toNat)|false=>none
 | .or=>match keq k k' with|true=>some (k.wrap (BitVec.ofInt k.bits x ||| BitVec.ofInt k.bits y).toNat)|false=>none
 | .xor=>match keq k k' with|true=>some (k.wrap (BitVec.ofInt k.bits x ^^^ BitVec.ofInt k.bits y).toNat)|false=>none
 | .andNot=>match keq k k' with|true=>some (k.wrap (BitVec.ofInt k.bits x &&& ~~~BitVec.ofInt k.bits y).toNat)|false=>none
 | _=>none
def a50 (a:Ar) (op:BinOp):Value->Value->(V->Prop)->Prop
 | .int k x,.int k' y,K=>match c0b op with
  | true=>c0c k K (a.bits op k x k' y)
  | false=>match keq k k' with|true=>b0I a k x y K op|false=>False
 | .string x,.string y,K=>b0J a x y K op
 | _,_,_=>False
def a1G (b:Bool) (K:V->Prop):BinOp->Prop
 | .eql=>K (vb b)
 | .neq=>K (vb (a1h b))
 | _=>False
def a8j:V->Bool
 | .d (.sc (.pointer none))=>true
 | _=>false
def Z1:TK->Bool
 | .slice=>true
 | _=>false
def Y4:TK->D->Bool
 | .int k,.sc (.int k' _)=>keq k k'
 | .str,.sc (.string _)=>true
 | .bool,.sc (.bool _)=>true
 | _,_=>false
def N5:List Nat->List (Nat×Nat)->Nat->List D->Bool
 | [],[],_,[]=>true
 | u::us,(off,1)::fs,n,d::ds=>match K7 off n with
  | true=>match Y4 (ty u).kind d with|true=>N5 us fs (n+1) ds|false=>false
  | false=>false
 | _,_,_,_=>false
def b1W:Nat->Nat->Bool:=Nat.beq
def b4h:Int->Int->Bool
 | .ofNat m,.ofNat n=>b1W m n
 | .negSucc m,.negSucc n=>b1W m n
 | _,_=>false
def a5h:List UInt8->List UInt8->Bool
 | [],[]=>true
 | x::l,y::m=>match b1W x.toNat y.toNat with|true=>a5h l m|false=>false
 | _,_=>false
def dEq:D->D->Bool
 | .sc (.int _ m),.sc (.int _ n)=>b4h m n
 | .sc (.string x),.sc (.string y)=>a5h x.data.toList y.data.toList
 | .sc (.bool x),.sc (.bool y)=>bEq x y
 | _,_=>false
def b0L:List D->List D->Bool
 | [],[]=>true
 | x::l,y::m=>match dEq x y with|true=>b0L l m|false=>false
 | _,_=>false
def b1X (t:Nat):List Nat->Bool
 | []=>false
 | u::l=>match K7 u t with|true=>true|false=>b1X t l
def a1A (t:Nat):R->Bool
 | .one d=>Y4 (ty t).kind d
 | .ag ds=>match (ty t).kind with|.struct=>(match b1X t b7W with|true=>N5 (ty t).fty (ty t).flds 0 ds|false=>false)|_=>false
def a1i:List V->Option (List D)
 | []=>some []
 | .d x::l=>match a1i l with|some ys=>some (x::ys)|none=>none
 | _=>none
def b4i (a:Ar) (op:BinOp) (t:Nat):V->V->(V->Prop)->Prop
 | .d (.sc x),.d (.sc y),K=>match (ty t).kind with
  | .ptr=>match x,y with
   | .pointer none,.pointer none=>a1G true K op
   | _,_=>False
  | .bool=>match x,y with
   | .bool b,.bool c=>a1G (bEq b c) K op
   | _,_=>False
  | _=>a50 a op x y K
 | .ptr _ _,y,K=>match (ty t).kind with
  | .ptr=>match a8j y with|true=>a1G false K op|false=>False
  | _=>False
 | x,.ptr _ _,K=>match (ty t).kind with
  | .ptr=>match a8j x with|true=>a1G false K op|false=>False
  | _=>False
 | .d (.sl _ rows),.em,K=>match Z1 (ty t).kind with|true=>a.nz (a.len rows) (a1G false K op)|false=>False
 | .em,.em,K=>match Z1 (ty t).kind with|true=>a1G true K op|false=>False
 | .ag xs,.ag ys,K=>match a1i xs,a1i ys with
  | some ds,some es=>match a1A t (.ag ds) with
   | true=>match a1A t (.ag es) with|true=>a1G (a.deq ds es) K op|false=>False
   | false=>False
  | _,_=>False
 | _,_,_=>False
def unV (a:Ar):UnOp->V->(V->Prop)->Prop
 | .not,.d (.sc (.bool b)),K=>K (vb (a1h b))
 | .neg,.d (.sc (.int k n)),K=>K (vi k (a.wrap k (a.sub 0 n)))
 | _,_,_=>False
def b7Z:Value->Option UInt8
 | .int k n=>match keq k .u8 with|true=>some (UInt8.ofNat n.toNat)|false=>none
 | _=>none
def b1Y:List D->Option UInt8
 | [.sc v]=>b7Z v
 | _=>none
def a4e:List (List D)->Option (List UInt8)
 | []=>some []
 | r::l=>match b1Y r with
  | some c=>match a4e l with|some t=>some (c::t)|none=>none
  | none=>none
def a5i (rows:List (List D)):Option ByteArray:=match a4e rows with|some l=>some ⟨⟨l⟩⟩|none=>none
def a52 (s:ByteArray):List (List D):=s.data.toList.map λc=>[.sc (.int .u8 (c.toNat:Int))]
def b4j (a:Ar) (K:V->Prop) (k:IntKind):V->Prop
 | .d (.sc (.int _ n))=>K (vi k (a.wrap k n))
 | _=>False
def b8z (K:V->Prop):Option ByteArray->Prop
 | some s=>K (vs s)
 | none=>False
def a9o:TK->Bool
 | .str=>true
 | _=>false
def b4k (a:Ar) (K:V->Prop) (b:Bool):V->Prop
 | .d (.sc (.string s))=>K (vs s)
 | .d (.sl _ rows)=>match b with|true=>b8z K (a.txt rows)|false=>False
 | .em=>match b with|true=>K (vs ⟨⟨[]⟩⟩)|false=>False
 | _=>False
def b4l (a:Ar) (K:V->Prop) (b:Bool):V->Prop
 | .d (.sc (.string s))=>match b with|true=>K (.d (.sl 1 (a.byt s)))|false=>False
 | _=>False
def a9p (a:Ar) (K:V->Prop) (k0 k:TK) (x:V):Prop:=match k with
 | .int j=>b4j a K j x
 | .str=>b4k a K (Z1 k0) x
 | .slice=>b4l a K (a9o k0) x
 | _=>False
def a0O:Bool->List V->Option V
 | true,l=>some (.ag l)
 | false,[x]=>some x
 | false,_=>none
def U3 (g:Operand->V) (place:List (Nat×Nat)):List (Nat×Operand)->List V->Option (List V)
 | [],l=>some l
 | (i,x)::ps,l=>match H6 1 (K9 i place) with
  | some [(off,sz)]=>match a0r (g x) with
   | some cs=>match K7 (G5 cs) sz with
    | true=>match splice l off cs with
     | some l'=>U3 g place ps l'
     | none=>none
    | false=>none
   | none=>none
  | _=>none
def places (sz:Nat):Nat->Nat->List (Nat×Nat)
 | 0,_=>[]
 | n+1,off=>(off,sz)::places sz n (off+sz)
def a2G (z:List V):Nat->List V->List V
 | 0,acc=>acc
 | n+1,acc=>a2G z n (z++acc)
def a4f (sz:Nat):Nat->List D->Option (List (List D))
 | 0,[]=>some []
 | 0,_::_=>none
 | n+1,l=>match H6 sz l with
  | some r=>match a4f sz n (K9 sz l) with
   | some rs=>some (r::rs)
   | none=>none
  | none=>none
def b80 (a:Ar) (os:List O) (K:V->Prop):V->Prop
 | .d (.sl _ rows)=>K (vi .i64 (a.len rows))
 | .em=>K (vi .i64 0)
 | .own k=>match y5 os k with|.row _ _ rows=>K (vi .i64 (a.len rows))|_=>False
 | .bs _ n=>K (vi .i64 (.ofNat n))
 | _=>False
def b81 (a:Ar) (K:V->Prop):V->Prop
 | .d (.sc (.string x))=>K (vi .i64 (a.slen x))
 | _=>False
def b4m (a:Ar) (os:List O) (K:V->Prop) (k:TK) (x:V):Prop:=match k with
 | .slice=>b80 a os K x
 | .str=>b81 a K x
 | _=>False
def J9 (os:List O):V->Option (Option Nat×List (List D))
 | .d (.sl sz rows)=>some (some sz,rows)
 | .em=>some (none,[])
 | .own k=>match y5 os k with|.row true e rows=>some (some (ty e).sz,rows)|_=>none
 | _=>none
def b64 (sz:Nat):Option Nat->Bool
 | none=>true
 | some n=>K7 n sz
def a5d (os:List O):V->Option (Nat×Nat×List (List D))
 | .own k=>match y5 os k with|.row false e rows=>some (k,e,rows)|_=>none
 | _=>none
def T3 (K:V->Prop) (o:Nat):V->Prop
 | .ptr k off=>K (.ptr k (off+o))
 | .el k i sz off=>K (.el k i sz (off+o))
 | .ro cs off=>K (.ro cs (off+o))
 | _=>False
def bsV:V->Option (Nat×Nat)
 | .bs k n=>some (k,n)
 | _=>none
def s9 (a:Ar) (os:List O) (K:V->Prop) (t:Nat) (x i:V):Prop:=match i with
  | .d (.sc (.int _ n))=>match (ty t).kind with
   | .array=>match (ty t).val with
    | some e=>match a.nat n (ty t).alen with
      | some j=>T3 K (j * (ty e).sz) x
      | none=>False
    | none=>False
   | _=>match (ty t).elem with
    | some e=>match bsV x with
     | some (k,m)=>match a.nat n m with|some j=>K (.ptr k (j * (ty e).sz))|none=>False
     | none=>match a5d os x with
       | some (k,e',rows)=>match K7 e' e with
        | true=>match a.get rows n with|some _=>K (.el k n (ty e).sz 0)|none=>False
        | false=>False
       | none=>match J9 os x with
        | some (some sz,rows)=>match K7 sz (ty e).sz with
          | true=>match a.get rows n with|some row=>K (.ro row 0)|none=>False
          | false=>False
        | _=>False
    | none=>False
  | _=>False
def E0 (a:Ar) (os:List O) (K:V->Prop) (t:Nat):V->Prop
 | .ptr k off=>match y5 os k with
  | .box cs=>match H6 (ty t).sz (K9 off cs) with
   | some l=>match a0O (ty t).agg l with|some x=>K x|none=>False
   | none=>False
  | _=>False
 | .ro cs off=>match H6 (ty t).sz (K9 off cs) with
  | some l=>match a0O (ty t).agg (ofD l) with|some x=>K x|none=>False
  | none=>False
 | .el k i sz off=>match y5 os k with
  | .row _ e rows=>match K7 (ty e).sz sz with
   | true=>match a.get rows i with
    | some row=>match H6 (ty t).sz (K9 off row) with
     | some l=>match a0O (ty t).agg (ofD l) with|some x=>K x|none=>False
     | none=>False
    | none=>False
   | false=>False
  | _=>False
 | _=>False
def N1 (K:V->Prop) (t i:Nat) (x:V):Prop:=match H6 1 (K9 i (ty t).flds) with
 | some [(off,_+1)]=>match x with
  | .ptr k o=>K (.ptr k (o+off))
  | .ro cs o=>K (.ro cs (o+off))
  | .el k i sz o=>K (.el k i sz (o+off))
  | _=>False
 | _=>False
def a9q (K:V->Prop) (t i:Nat) (x:V):Prop:=match H6 1 (K9 i (ty t).fty),H6 1 (K9 i (ty t).flds),x with
 | some [u],some [(off,_)],.ag cs=>match H6 (ty u).sz (K9 off cs) with
  | some l=>match a0O (ty u).agg l with|some x=>K x|none=>False
  | none=>False
 | _,_,_=>False
def G3 (g:Operand->V):List Operand->List V
 | []=>[]
 | x::l=>g x::G3 g l
def a7n (a:Ar) (os:List O) (K:V->Prop) (f:Nat) (vs:List V):Prop:=match a7b os vs with
 | some rs=>a.call f rs (λq=>K (b3g q))
 | none=>a.calld f vs os K
def P4 (g:Operand->V):Option Operand->Option V
 | none=>none
 | some x=>some (g x)
def a3p (n:Int):Option V->Option Int
 | none=>some n
 | some (.d (.sc (.int _ n)))=>some n
 | _=>none
def a1H (a:Ar) (os:List O) (K:V->Prop) (t:Nat) (x:V) (lo hi:Option V):Prop:=match a3p 0 lo with
 | some l=>match (ty t).kind with
  | .str=>match x with
   | .d (.sc (.string b))=>match a3p (a.slen b) hi with
    | some h=>match a.ssub b l h with|some c=>K (vs c)|none=>False
    | none=>False
   | _=>False
  | .slice=>match (ty t).elem with
   | some e=>match J9 os x with
    | some (sz,rows)=>match b64 (ty e).sz sz with
     | true=>match a3p (a.len rows) hi with
      | some h=>match a.sub2 rows l h with|some rs=>K (.d (.sl (ty e).sz rs))|none=>False
      | none=>False
     | false=>False
    | none=>False
   | none=>False
  | _=>False
 | none=>False
def a1I (a:Ar) (K:V->Prop) (t:Nat):V->V->Prop
 | .ag cs,.d (.sc (.int _ n))=>match (ty t).kind with
  | .array=>match (ty t).val with
   | some e=>match a.nat n (ty t).alen with
    | some j=>match H6 (ty e).sz (K9 (j * (ty e).sz) cs) with
     | some l=>match a0O (ty e).agg l with|some x=>K x|none=>False
     | none=>False
    | none=>False
   | none=>False
  | _=>False
 | .d (.sc (.string b)),.d (.sc (.int _ n))=>match (ty t).kind with
  | .str=>match a.sget b n with|some c=>K (vi .u8 c)|none=>False
  | _=>False
 | _,_=>False
def a1j (g:Operand->V) (K:V->Prop) (t:Nat) (ps:List (Nat×Operand)):Prop:=match (ty t).kind with
 | .struct=>match U3 g (ty t).flds ps (C6 (ty t).zero) with
  | some l=>K (.ag l)
  | none=>False
 | .array=>match (ty t).val with
  | some e=>match U3 g (places (ty e).sz (ty t).alen 0) ps (C6 (ty t).zero) with
   | some l=>K (.ag l)
   | none=>False
  | none=>False
 | _=>False
def C9 (g:Operand->V) (os:List O) (K:V->Prop) (t n:Nat) (ps:List (Nat×Operand)):Prop:=match (ty t).elem with
 | some e=>match n with
  | 0=>False
  | n+1=>match U3 g (places (ty e).sz (n+1) 0) ps (a2G (C6 (ty e).zero) (n+1) []) with
   | some l=>match a2U os l with
    | some ds=>match a4f (ty e).sz (n+1) ds with
     | some rows=>K (.d (.sl (ty e).sz rows))
     | none=>False
    | none=>False
   | none=>False
 | none=>False
def a1J (K:V->Prop) (i:Nat):V->Prop
 | .tu vs=>match H6 1 (K9 i vs) with|some [v]=>K v|_=>False
 | _=>False
def a9r (K:V->Prop) (x y:V):V->Prop
 | .d (.sc (.bool b))=>K (match b with|true=>x|false=>y)
 | _=>False
def a9s:List V->Option (List Nat)
 | []=>some []
 | .ptr k 0::l=>match a9s l with|some ks=>some (k::ks)|none=>none
 | _=>none
def rEq:R->R->Bool
 | .one x,.one y=>dEq x y
 | .ag xs,.ag ys=>b0L xs ys
 | _,_=>false
def a2A:List (R×R)->R->Option R
 | [],_=>none
 | (k,v)::l,r=>match rEq k r with|true=>some v|false=>a2A l r
def a0E:List (R×R)->R->R->List (R×R)
 | [],r,q=>[(r,q)]
 | (k,v)::l,r,q=>match rEq k r with|true=>(k,q)::l|false=>(k,v)::a0E l r q
def b65 (os:List O) (t:Nat) (x:V):Option R:=match toR os x with
 | some r=>match a1A t r with|true=>some r|false=>none
 | none=>none
def a8k (K:V->Prop) (ok b:Bool) (x:V):Prop:=match ok with|true=>K (.tu [x,vb b])|false=>K x
def a9t (K:V->Prop) (ok:Bool) (e:Nat):Prop:=match a0O (ty e).agg (C6 (ty e).zero) with
 | some z=>a8k K ok false z
 | none=>False
def a9u (a:Ar) (os:List O) (K:V->Prop) (t:Nat) (ok:Bool) (x i:V):Prop:=match (ty t).kind with
 | .map=>match (ty t).key,(ty t).val with
  | some kt,some e=>match b65 os kt i with
   | some r=>match x with
    | .mp k=>match y5 os k with
     | .mp kt' es=>match K7 kt' kt with
      | true=>match a.mlook es r with
       | some q=>a8k K ok true (b63 q)
       | none=>a9t K ok e
      | false=>False
     | _=>False
    | .d (.sc (.map none))=>a9t K ok e
    | _=>False
   | none=>False
  | _,_=>False
 | _=>False
def a8l (a:Ar) (K:V->Prop) (mx:Bool):List V->Prop
 | [.d (.sc (.int k x)),.d (.sc (.int k' y))]=>match keq k k' with
  | true=>match mx with
   | true=>K (vi k (match a.lt x y with|true=>y|false=>x))
   | false=>K (vi k (match a.lt y x with|true=>y|false=>x))
  | false=>False
 | _=>False
def nnV (K:V->Prop):V->Prop
 | .ptr k off=>K (.ptr k off)
 | .cl f ks=>K (.cl f ks)
 | .el k i sz off=>K (.el k i sz off)
 | .ro cs off=>K (.ro cs off)
 | _=>False
def fnV:V->Option (Nat×List Nat)
 | .cl f ks=>some (f,ks)
 | .d (.sc (.func (.func f) ⟨[]⟩ ⟨[]⟩))=>some (f,[])
 | _=>none
def a54:List Nat->List V
 | []=>[]
 | k::l=>.ptr k 0::a54 l
def a2B:List V->List V->List V
 | [],m=>m
 | x::l,m=>x::a2B l m
def a8m (a:Ar) (os:List O) (K:V->Prop) (x:V) (vs:List V):Prop:=match fnV x with
 | some (f,ks)=>a7n a os K f (a2B vs (a54 ks))
 | none=>False
def E6 (a:Ar) (g:Operand->V) (os:List O) (K:V->Prop):Op->Prop
 | .move x=>K (g x)
 | .assign x=>K (g x)
 | .pick c x y=>a9r K (g x) (g y) (g c)
 | .load t x=>E0 a os K t (g x)
 | .fieldAddr t x i=>N1 K t i (g x)
 | .field t x i=>a9q K t i (g x)
 | .indexAddr t x i=>s9 a os K t (g x) (g i)
 | .index t x i=>a1I a K t (g x) (g i)
 | .binOp op t x y _=>b4i a op t (g x) (g y) K
 | .unOp op _ x=>unV a op (g x) K
 | .convert t0 t x=>a9p a K (ty t0).kind (ty t).kind (g x)
 | .build t ps=>a1j g K t ps.toList
 | .buildSlice t n ps=>C9 g os K t n ps.toList
 | .extract x i=>a1J K i (g x)
 | .slice t x lo hi none=>a1H a os K t (g x) (P4 g lo) (P4 g hi)
 | .call ⟨.builtin .len,⟨[x]⟩,⟨[t]⟩⟩=>b4m a os K (ty t).kind (g x)
 | .call ⟨.value (.func f),args,_⟩=>a7n a os K f (G3 g args.toList)
 | .lookup t x i ok=>a9u a os K t ok (g x) (g i)
 | .call ⟨.builtin .min,args,_⟩=>a8l a K false (G3 g args.toList)
 | .call ⟨.builtin .max,args,_⟩=>a8l a K true (G3 g args.toList)
 | .nilCheck x=>nnV K (g x)
 | .makeFunc (.func f) ⟨[]⟩ cs=>match a9s (G3 g cs.toList) with|some ks=>K (.cl f ks)|none=>False
 | .call ⟨.value (.tmp i),args,_⟩=>a8m a os K (g (.tmp i)) (G3 g args.toList)
 | _=>False
def F7 (a:Ar) (s:S) (K:S->Prop) (t:Nat) (y:V):V->Prop
 | .ptr k off=>match y5 s.o k with
  | .box cs=>match a0r y with
   | some l=>match K7 (G5 l) (ty t).sz with
    | true=>match splice cs off l with
     | some cs'=>K ⟨s.t,J8 s.o k (.box cs')⟩
     | none=>False
    | false=>False
   | none=>False
  | _=>False
 | .el k i sz off=>match y5 s.o k with
  | .row false e rows=>match K7 (ty e).sz sz with
   | true=>match a.get rows i with
    | some row=>match a0r y with
     | some l=>match a2U s.o l with
      | some ds=>match K7 (G5 ds) (ty t).sz with
       | true=>match splice row off ds with
        | some row'=>K ⟨s.t,J8 s.o k (.row false e (a.set rows i row'))⟩
        | none=>False
       | false=>False
      | none=>False
     | none=>False
    | none=>False
   | false=>False
  | _=>False
 | _=>False
def H4 (a:Ar) (m:Bool) (s:S) (dst:Option Nat) (K:S->Prop) (t:Nat) (x y:V):Prop:=match (ty t).elem with
 | some e=>match J9 s.o y with
  | some (sz,ys)=>match b64 (ty e).sz sz with
   | true=>match x with
    | .em=>a.room [] ys (a.new e λz=>K ((s.fresh m (.row z e ys)).put dst (.own (o7 s.o))))
    | .own k=>match y5 s.o k with
     | .row z e' xs=>match K7 e' e with
      | true=>a.room xs ys (K (S.put ⟨E5 k s.t,J8 (A6 k s.o) k (.row z e (a.app xs ys))⟩ dst (.own k)))
      | false=>False
     | _=>False
    | _=>False
   | false=>False
  | none=>False
 | none=>False
def b83 (a:Ar) (s:S) (dst:Option Nat) (K:S->Prop) (t n:Nat) (ps:List (Nat×Operand)):Prop:=match (ty t).elem with
 | some e=>C9 s.get s.o (λv=>match v with
  | .d (.sl _ rows)=>a.new e λz=>K ((s.obj (.row z e rows)).put dst (.own (o7 s.o)))
  | _=>False) t n ps
 | none=>False
def a9v (a:Ar) (s:S) (K:S->Prop) (t:Nat) (x i v:V):Prop:=match (ty t).kind with
 | .map=>match (ty t).key,x with
  | some kt,.mp k=>match b65 s.o kt i,toR s.o v,y5 s.o k with
   | some r,some q,.mp kt' es=>match K7 kt' kt with
    | true=>K ⟨s.t,J8 s.o k (.mp kt (a.mput es r q))⟩
    | false=>False
   | _,_,_=>False
  | _,_=>False
 | _=>False
def a1K (a:Ar) (s:S) (dst:Option Nat) (K:S->Prop) (t:Nat):V->V->Prop
 | .d (.sc (.int _ n)),.d (.sc (.int _ m))=>match a.eq n m with
  | true=>match (ty t).elem with
   | some e=>match a2U [] (C6 (ty e).zero) with
    | some z=>a.rep n z λrows=>a.new e λb=>K ((s.obj (.row b e rows)).put dst (.own (o7 s.o)))
    | none=>False
   | none=>False
  | false=>False
 | _,_=>False
def c1u:List Value->Bool
 | .pointer none::.slice none 0 0::_=>true
 | _=>false
def a4g (e:Nat):O:=match c1u (ty e).zero with|true=>.ob e (ty e).zero|false=>.box (C6 (ty e).zero)
def B6 (a:Ar) (m:Bool) (s:S) (dst:Option Nat) (K:S->Prop):Op->Prop
 | .alloc e=>match a1F (C6 (ty e).zero) with
  | true=>K ((s.obj (a4g e)).put dst (.ptr (o7 s.o) 0))
  | false=>False
 | .box _ x=>match a0r (s.get x) with
  | some cs=>K ((s.obj (.box cs)).put dst (.ptr (o7 s.o) 0))
  | none=>False
 | .store t x y=>match dst with
  | none=>F7 a s K t (s.get y) (s.get x)
  | some _=>False
 | .makeSlice t x y=>a1K a s dst K t (s.get x) (s.get y)
 | .makeMap t none=>match (ty t).kind with
  | .map=>match (ty t).key with
   | some kt=>K ((s.obj (.mp kt [])).put dst (.mp (o7 s.o)))
   | none=>False
  | _=>False
 | .mapUpdate t x i v=>match dst with
  | none=>a9v a s K t (s.get x) (s.get i) (s.get v)
  | some _=>False
 | .buildSlice t 0 ⟨[]⟩=>match (ty t).elem with
  | some e=>a.new e λz=>K ((s.fresh m (.row z e [])).put dst (.own (o7 s.o)))
  | none=>False
 | .call ⟨.builtin .append,⟨[x,y]⟩,⟨[t,_]⟩⟩=>H4 a m s dst K t (s.get x) (s.get y)
 | .buildSlice t (n+1) ps=>match m with
  | true=>a.lit t λc=>match c with
   | true=>E6 a s.get s.o (λv=>K (s.put dst v)) (.buildSlice t (n+1) ps)
   | false=>b83 a s dst K t (n+1) ps.toList
  | false=>E6 a s.get s.o (λv=>K (s.put dst v)) (.buildSlice t (n+1) ps)
 | .call ⟨.value (.func f),args,ts⟩=>match m with
  | true=>a.callo f (G3 s.get args.toList) s (λv s'=>K (s'.put dst v))
  | false=>E6 a s.get s.o (λv=>K (s.put dst v)) (.call ⟨.value (.func f),args,ts⟩)
 | .call ⟨.value (.tmp i),args,ts⟩=>match m with
  | true=>match fnV (o6 s.t i) with
   | some (f,ks)=>a.callo f (a2B (G3 s.get args.toList) (a54 ks)) s (λv s'=>K (s'.put dst v))
   | none=>False
  | false=>E6 a s.get s.o (λv=>K (s.put dst v)) (.call ⟨.value (.tmp i),args,ts⟩)
 | op=>E6 a s.get s.o (λv=>K (s.put dst v)) op
def getD:List (Option Nat)->Nat->Option Nat
 | [],_=>none
 | x::_,0=>x
 | _::l,n+1=>getD l n
def T1:V:=.tu []
def guard (s:S) (dsts:List (Option Nat)) (j:Nat) (K:Option Bool->Prop):Prop:=match getD dsts j with
 | some d=>match o6 s.t d with
  | .d (.sc (.bool c))=>K (some c)
  | .tu []=>K none
  | _=>False
 | none=>False
def n5:List Oper->List (Option Nat)
 | []=>[]
 | o::l=>o.dst::n5 l
def run (a:Ar) (m:Bool) (dsts:List (Option Nat)):List Oper->S->(S->Prop)->Prop
 | [],s,K=>K s
 | ⟨dst,op,_,_,_,none⟩::l,s,K=>B6 a m s dst (λs=>run a m dsts l s K) op
 | ⟨dst,op,_,_,_,some (j,b)⟩::l,s,K=>guard s dsts j fun
  | some c=>match bEq c b with
   | true=>B6 a m s dst (λs=>run a m dsts l s K) op
   | false=>run a m dsts l (s.put dst T1) K
  | none=>run a m dsts l (s.put dst T1) K
def b4n:List O->Bool
 | []=>false
 | .it _::_=>true
 | _::l=>b4n l
def c1v:V->Bool
 | .bs _ _=>true
 | _=>false
def c0e (os:List O):V->Bool
 | .own k=>match y5 os k with|.it _=>true|_=>false
 | _=>false
def b8a (os:List O):List V->Bool
 | []=>false
 | x::l=>match c0e os x with|true=>true|false=>b8a os l
def b4o (s:S):List (Nat×Operand)->Bool
 | []=>false
 | (_,x)::l=>match (match s.get x with|.ag cs=>b8a s.o cs|v=>c0e s.o v) with|true=>true|false=>b4o s l
def c0f (s:S):Op->Bool
 | .call ⟨.builtin .append,⟨[_,y]⟩,_⟩=>c1v (s.get y)
 | .buildSlice _ (_+1) ps=>b4o s ps.toList
 | .convert t0 t _=>match Z1 (ty t0).kind with|true=>Z1 (ty t).kind|false=>false
 | _=>false
def a4J (a:Ar) (s:S) (dst:Option Nat) (K:S->Prop) (op:Op):Prop:=match c0f s op with
 | true=>a.ext op dst s K
 | false=>B6 a true s dst K op
def a0s (a:Ar) (dsts:List (Option Nat)):List Oper->S->(S->Prop)->Prop
 | [],s,K=>K s
 | ⟨dst,op,_,_,_,none⟩::l,s,K=>a4J a s dst (λs=>a0s a dsts l s K) op
 | ⟨dst,op,_,_,_,some (j,b)⟩::l,s,K=>guard s dsts j fun
  | some c=>match bEq c b with
   | true=>a4J a s dst (λs=>a0s a dsts l s K) op
   | false=>a0s a dsts l (s.put dst T1) K
  | none=>a0s a dsts l (s.put dst T1) K
def b8b (N:S->Prop) (K:X->S->Prop):X->S->Prop
 | .normal,s=>N s
 | .exit i,s=>K (.exit i) s
 | .ret,s=>K .ret s
def b4p (id:Nat) (K:X->S->Prop):X->S->Prop
 | .normal,s=>K .normal s
 | .exit i,s=>match K7 i id with|true=>K .normal s|false=>K (.exit i) s
 | .ret,s=>K .ret s
def upN:List Nat->Nat->Nat->Nat
 | k::_,_,0=>k
 | _::l,n,j+1=>upN l n j
 | [],n,j=>n+j
def upK (ks:List Nat) (n:Nat):List Nat->List Nat
 | []=>[]
 | j::l=>upN ks n j::upK ks n l
def up1 (ks:List Nat) (n:Nat):V->V
 | .own j=>.own (upN ks n j)
 | .ptr j off=>.ptr (upN ks n j) off
 | .cl f l=>.cl f (upK ks n l)
 | .el j i sz off=>.el (upN ks n j) i sz off
 | .mp j=>.mp (upN ks n j)
 | .bs j m=>.bs (upN ks n j) m
 | .ag _=>.jk
 | .tu _=>.jk
 | x=>x
def upL (ks:List Nat) (n:Nat):List V->List V
 | []=>[]
 | x::l=>up1 ks n x::upL ks n l
def up2 (ks:List Nat) (n:Nat):V->V
 | .ag cs=>.ag (upL ks n cs)
 | .tu []=>.tu []
 | x=>up1 ks n x
def upT (ks:List Nat) (n:Nat):List V->List V
 | []=>[]
 | x::l=>up2 ks n x::upT ks n l
def upO (ks:List Nat) (n:Nat):O->O
 | .box cs=>.box (upL ks n cs)
 | .kl _=>.dead
 | x=>x
def N2 (ks:List Nat) (n:Nat):List O->List O
 | []=>[]
 | x::l=>upO ks n x::N2 ks n l
def b3i:List O->List O->List O
 | [],m=>m
 | x::l,m=>x::b3i l m
def E1:List Nat->List O->List O->List O
 | k::ks,x::os,l=>E1 ks os (J8 l k x)
 | _,os,l=>b3i l os
def A7:List Nat->List V->List V
 | [],t=>t
 | k::ks,t=>A7 ks (E5 k t)
def P5:List Nat->List O->List O
 | [],l=>l
 | k::ks,l=>P5 ks (A6 k l)
def a0t (ks:List Nat) (os:List O) (s:S):S:=⟨A7 ks s.t,E1 ks (N2 ks (o7 s.o) os) (P5 ks s.o)⟩
def a5e (k:Nat):List Nat->Bool
 | []=>false
 | j::l=>match K7 j k with|true=>true|false=>a5e k l
def a55:List Nat->Bool
 | []=>true
 | k::l=>match a5e k l with|true=>false|false=>a55 l
def pick:List Nat->List O->List O
 | [],_=>[]
 | k::ks,l=>y5 l k::pick ks l
def b4q:List O->Bool
 | []=>true
 | .dead::_=>false
 | .kl _::_=>false
 | _::l=>b4q l
def b85 (o:List O) (k:Nat):List O:=match y5 o k with
 | .row _ e rows=>J8 o k (.row true e rows)
 | _=>o
def frz:List Nat->List O->List O
 | [],o=>o
 | k::ks,o=>frz ks (b85 o k)
def b1Z:Nat->Nat->List Nat->Bool
 | _,0,_=>true
 | j,n+1,k::l=>match K7 j k with|true=>b1Z (j+1) n l|false=>false
 | _,_+1,[]=>false
def a0u:List V->V
 | [v]=>v
 | vs=>.tu vs
end Go.Proofs.YtncijebklnbhlaaGreatDoor.Vm
end
section
namespace Go.Proofs.YtncijebklnbhlaaGreatDoor
open Go.RowKit
set_option maxRecDepth 100000
set_option maxHeartbeats 4000000
section
def gb (l:List Int) (i:Nat):Int:=l.getD i 0
def G2 (w:World) (k:IntKind) (b off:Nat) (l:List Int):Prop:=∀i,i<l.length->w.cell? ⟨b,off+i,none⟩=some (.int k (gb l i))
def J0 (w:World) (k:IntKind) (A:Option Addr) (l:List Int):Prop:=l=[]\/∃b off,A=some ⟨b,off,none⟩/\b<w.heap.size/\G2 w k b off l
section
variable {w w':World} {k:IntKind} {b off:Nat} {l:List Int} {A:Option Addr}
theorem G2.keep (h:G2 w k b off l) (hk:∀i,w'.cell? ⟨b,i,none⟩=w.cell? ⟨b,i,none⟩):G2 w' k b off l:=λi hi=>(hk _).trans (h i hi)
theorem G2.below {B:Nat} (h:G2 w k b off l) (hb:Below B w w') (hB:b<B):G2 w' k b off l:=h.keep λi=>hb.cell (p:=⟨b,i,none⟩) hB
theorem G2.alloc (h:G2 w k b off l) (hB:b<w.heap.size) (o:Obj):G2 (w.alloc o) k b off l:=h.keep λi=>World.cell?_alloc_lt w o ⟨b,i,none⟩ hB
theorem G2.drew (h:G2 w k b off l):G2 w.drew k b off l:=h
theorem G2.drewN (h:G2 w k b off l) (n:Nat):G2 (w.drewN n) k b off l:=h
theorem J0.below {B:Nat} (h:J0 w k A l) (hb:Below B w w') (hB:∀b off,A=some ⟨b,off,none⟩->b<B):J0 w' k A l:=by
 rcases h with h|⟨b,off,rfl,hlt,hc⟩
 ·exact .inl h
 ·exact .inr ⟨b,off,rfl,Nat.lt_of_lt_of_le hlt hb.size,hc.below hb (hB _ _ rfl)⟩
theorem J0.below_all (h:J0 w k A l) (hb:Below w.heap.size w w'):J0 w' k A l:=by
 rcases h with h|⟨b,off,rfl,hlt,hc⟩
 ·exact .inl h
 ·exact .inr ⟨b,off,rfl,Nat.lt_of_lt_of_le hlt hb.size,hc.below hb hlt⟩
theorem J0.drewN (h:J0 w k A l) (n:Nat):J0 (w.drewN n) k A l:=h
theorem J0.alloc (h:J0 w k A l) (o:Obj):J0 (w.alloc o) k A l:=h.below_all ((Below.refl _ _).alloc (Nat.le_refl _) o)
theorem J0.cells (h:J0 w k A l) (hl:0<l.length):∃b off,A=some ⟨b,off,none⟩/\b<w.heap.size/\G2 w k b off l:=by
 rcases h with rfl|h
 ·simp at hl
 ·exact h
end
end
section
def Blk (w:World) (g:Nat) (t:TypeId) (cs:Array Value):Prop:=w.heap[g]?=some (.cells cs t (0,0))
section
variable {w w':World} {g:Nat} {t:TypeId} {cs:Array Value}
theorem Blk.lt (h:Blk w g t cs):g<w.heap.size:=by
 rcases Nat.lt_or_ge g w.heap.size with hlt|hge
 ·exact hlt
 ·unfold Blk at h;rw[Array.getElem?_eq_none hge] at h;cases h
theorem Blk.cell (h:Blk w g t cs) (i:Nat):w.cell? ⟨g,i,none⟩=cs[i]?:=cell_of_row w g i cs t (0,0) h
theorem Blk.frozen (h:Blk w g t cs) (i:Nat):w.frozen? ⟨g,i,none⟩=false:=by
 unfold Blk at h
 simp[World.frozen?,h]
theorem Blk.new (w:World) (t:TypeId) (cs:Array Value):Blk (w.alloc (.cells cs t)) w.heap.size t cs:=heap_alloc_new w _
theorem Blk.drew (h:Blk w g t cs):Blk w.drew g t cs:=h
theorem Blk.drewN (h:Blk w g t cs) (n:Nat):Blk (w.drewN n) g t cs:=h
theorem Blk.alloc (h:Blk w g t cs) (o:Obj):Blk (w.alloc o) g t cs:=(Below.heap_alloc w o g h.lt).trans h
theorem Blk.below {B:Nat} (h:Blk w g t cs) (hb:Below B w w') (hg:g<B):Blk w' g t cs:=(hb.block g hg).trans h
end
def a1L (w:World) (g:Nat) (t:TypeId) (k:IntKind) (l:List Int):Prop:=Blk w g t (l.map (Value.int k)).toArray
section
variable {w w':World} {g:Nat} {t:TypeId} {k:IntKind} {l:List Int}
theorem a1L.cell (h:a1L w g t k l) {i:Nat} (hi:i<l.length):w.cell? ⟨g,i,none⟩=some (.int k (gb l i)):=by
 rw[Blk.cell h i]
 simp[gb,hi]
theorem a1L.cells (h:a1L w g t k l):G2 w k g 0 l:=λi hi=>by rw[Nat.zero_add];exact h.cell hi
theorem a1L.frozen (h:a1L w g t k l) (i:Nat):w.frozen? ⟨g,i,none⟩=false:=Blk.frozen h i
theorem a1L.new (w:World) (t:TypeId) (k:IntKind) (l:List Int):a1L (w.alloc (.cells (l.map (Value.int k)).toArray t)) w.heap.size t k l:=Blk.new w t _
end
end
section
section
variable {P:Program} (w:World)
end
def Own (w:World) (base:Nat) (t:TypeId) (k:IntKind) (v:Value) (ps:List Int):Prop:=w.ownsRow base t 1 v ps.length (ps.map (Value.int k))
section
variable {w w':World} {base:Nat} {t:TypeId} {k:IntKind} {v:Value} {ps:List Int}
theorem Own.slice (h:Own w base t k v ps):∃A cap,v=.slice A ps.length cap/\ps.length<=cap/\cap<=maxLen/\J0 w k A ps:=by
 rcases h.2 with⟨rfl,h0⟩|⟨g,cap,cur,rfl,hg,hh,h1,h2,h3,h4⟩
 ·exact⟨none,0,by rw[h0],by omega,by unfold maxLen;omega,.inl (List.eq_nil_of_length_eq_zero h0)⟩
 ·refine⟨_,cap,rfl,h1,h2,.inr ⟨g,0,rfl,?_,λi hi=>?_⟩⟩
  ·exact(Array.getElem?_eq_some_iff.1 hh).1
  ·have:=h.cellAt i (by rw[Nat.mul_one];exact hi);rw[Nat.zero_add,this]
   simp[gb,hi]
theorem Own.below (h:Own w base t k v ps) (hb:Below w.heap.size w w'):Own w' base t k v ps:=by
 refine⟨h.1,?_⟩
 rcases h.2 with h2|⟨g,cap,cur,hv,hg,hh,r⟩
 ·exact .inl h2
 ·exact .inr ⟨g,cap,cur,hv,hg,(hb.block g (Array.getElem?_eq_some_iff.1 hh).1).trans hh,r⟩
theorem Own.drew (h:Own w base t k v ps):Own w.drew base t k v ps:=h
theorem Own.alloc (h:Own w base t k v ps) (o:Obj):Own (w.alloc o) base t k v ps:=World.ownsRow.alloc h o
theorem Own.nil (w:World) (base:Nat) (t:TypeId) (k:IntKind):Own w base t k (.slice none 0 0) []:=World.ownsRow_nil _ _ _ _
theorem Own.mono {base':Nat} (h:Own w base t k v ps) (hb:base'<=base):Own w base' t k v ps:=by
 refine⟨h.1,?_⟩
 rcases h.2 with h2|⟨g,cap,cur,hv,hg,r⟩
 ·exact .inl h2
 ·exact .inr ⟨g,cap,cur,hv,by omega,r⟩
theorem Own.app {l:List Int} {m:Nat} (hl:l.length=m) (h:w'.ownsRow base t 1 v (ps.length+m) (ps.map (Value.int k)++l.map (Value.int k))):Own w' base t k v (ps++l):=by
 subst hl;unfold Own;rw[List.length_append,List.map_append];exact h
theorem Own.one {x:Int} (h:w'.ownsRow base t 1 v (ps.length+1) (ps.map (Value.int k)++[.int k x])):Own w' base t k v (ps++[x]):=Own.app (l:=[x]) rfl h
theorem Own.lit (w:World) (t:TypeId) (k:IntKind) (l:List Int) (hb:base<=w.heap.size) (hm:l.length<=maxLen):Own (w.alloc (.cells (l.map (Value.int k)).toArray t)) base t k (.slice (some ⟨w.heap.size,0,none⟩) l.length l.length) l:=by
 have:=World.ownsRow_lit (base:=base) (e:=t) (size:=1) w (l.map (Value.int k)).toArray l.length hb hm (by simp)
 simpa [Own] using this
end
end
section
section
variable {P:Program} (w:World)
def b8d (w:World) (A:Option Addr) (m size:Nat) (ys:List Value):Prop:=ys.length=m * size/\(A=none->m=0)/\(∀ad,A=some ad->∀j u,ys[j]?=some u->w.cell? (ad.add j)=some u)/\∀u∈ys,u.oneCell'=true
end
end
end Go.Proofs.YtncijebklnbhlaaGreatDoor
end
section
namespace Go.Proofs.YtncijebklnbhlaaGreatDoor.Vm
open Go.RowKit
set_option maxRecDepth 100000
set_option maxHeartbeats 4000000
def Up (I:Nat->Nat->Prop) (b n:Nat):Prop:=∃h,n<=h/\I b h
theorem Up.mono {I I':Nat->Nat->Prop} (hI:∀b h,I b h->I' b h) {b n:Nat} (h:Up I b n):Up I' b n:=by
 obtain⟨k,h1,h2⟩:=h;exact⟨k,h1,hI _ _ h2⟩
theorem Up.down {I:Nat->Nat->Prop} {b n m:Nat} (h:Up I b n) (hm:m<=n):Up I b m:=by
 obtain⟨k,h1,h2⟩:=h;exact⟨k,Nat.le_trans hm h1,h2⟩
inductive AtD (I:Nat->Nat->Prop) (w:World):Value->D->Prop
 | sc (v:Value) (h:v.oneCell'=true):AtD I w v (.sc v)
 | nil (A:Option Addr) (cap sz:Nat):AtD I w (.slice A 0 cap) (.sl sz [])
 | sl (b off cap sz:Nat) (rows:List (List D)) (us:List Value) (hcap:rows.length<=cap) (hI:Up I b (off+rows.length * sz)) (hr:∀r∈rows,r.length=sz) (hl:us.length=rows.length * sz)
   (hc:∀i u,us[i]?=some u->w.cell? ⟨b,off+i,none⟩=some u) (hd:∀(i:Nat) (u:Value) (d:D),us[i]?=some u->rows.flatten[i]?=some d->AtD I w u d) :
   AtD I w (.slice (some ⟨b,off,none⟩) rows.length cap) (.sl sz rows)
def A1 (I:Nat->Nat->Prop) (w w':World):Prop:=∀b h,I b h->∀i,i<h->w'.cell? ⟨b,i,none⟩=w.cell? ⟨b,i,none⟩
theorem A1.trans {I:Nat->Nat->Prop} {w1 w2 w3:World} (h:A1 I w1 w2) (h2:A1 I w2 w3):A1 I w1 w3:=λb k hb i hi=>(h2 b k hb i hi).trans (h b k hb i hi)
theorem A1.refl (I:Nat->Nat->Prop) (w:World):A1 I w w:=λ_ _ _ _ _=>rfl
theorem AtD.mono {I I':Nat->Nat->Prop} {w w':World} (hI:∀b h,I b h->I' b h) (hk:A1 I w w') {v:Value} {d:D} (h:AtD I w v d):AtD I' w' v d:=by
 induction h with
 | sc v h=>exact .sc v h
 | nil A cap sz=>exact .nil A cap sz
 | sl b off cap sz rows us hcap hi hr hl hc _ ih =>
  refine .sl b off cap sz rows us hcap (hi.mono hI) hr hl (λi u hu=>?_) ih;have hlt:i<rows.length * sz:=by rw[<-hl];exact(List.getElem?_eq_some_iff.1 hu).1
  obtain⟨k,hk1,hk2⟩:=hi;exact(hk _ _ hk2 _ (by omega)).trans (hc i u hu)
theorem AtD.one {I:Nat->Nat->Prop} {w:World} {v:Value} {d:D} (h:AtD I w v d):v.oneCell'=true:=by
 cases h with
 | sc v h=>exact h
 | nil=>rfl
 | sl=>rfl
theorem a0v {α:Type} {sz:Nat}:∀ {rows:List (List α)},(∀r∈rows,r.length=sz)->rows.flatten.length=rows.length * sz
 | [],_=>by simp
 | r::rows,h=>by
  rw[List.flatten_cons,List.length_append,h r (List.mem_cons_self ..),a0v λx hx=>h x (List.mem_cons_of_mem _ hx),List.length_cons,Nat.succ_mul];omega
theorem Z2 {α:Type} {sz:Nat}:∀ {rows:List (List α)},(∀r∈rows,r.length=sz)->∀ {i j:Nat} {r:List α},rows[i]?=some r->j<sz->rows.flatten[i * sz+j]?=r[j]?
 | [],_,i,j,r,hr,_=>by simp at hr
 | s::rows,h,0,j,r,hr,hj=>by
  simp at hr
  subst hr;rw[List.flatten_cons,List.getElem?_append_left (by rw[h s (List.mem_cons_self ..)];omega)]
  simp
 | s::rows,h,i+1,j,r,hr,hj=>by
  have hr':rows[i]?=some r:=by simpa using hr
  rw[List.flatten_cons,List.getElem?_append_right (by rw[h s (List.mem_cons_self ..),Nat.succ_mul];omega),<-Z2 (λx hx=>h x (List.mem_cons_of_mem _ hx)) hr' hj]
  congr 1
  rw[h s (List.mem_cons_self ..),Nat.succ_mul];omega
def A8 (I:Nat->Nat->Prop) (w:World) (us:List Value) (ds:List D):Prop:=us.length=ds.length/\∀(i:Nat) (u:Value) (d:D),us[i]?=some u->ds[i]?=some d->AtD I w u d
theorem A8.mono {I I':Nat->Nat->Prop} {w w':World} (hI:∀b h,I b h->I' b h) (hk:A1 I w w') {us:List Value} {ds:List D} (h:A8 I w us ds):A8 I' w' us ds :=
 ⟨h.1,λi u d hu hd=>(h.2 i u d hu hd).mono hI hk⟩
theorem A8.nil (I:Nat->Nat->Prop) (w:World):A8 I w [] []:=⟨rfl,λi u d h=>by simp at h⟩
theorem A8.cons {I:Nat->Nat->Prop} {w:World} {u:Value} {d:D} {us:List Value} {ds:List D} (h:AtD I w u d) (hs:A8 I w us ds):A8 I w (u::us) (d::ds) :=
 ⟨by simp[hs.1],λi x y hx hy=>by
  cases i with
  | zero=>simp at hx hy;subst hx;subst hy;exact h
  | succ i=>exact hs.2 i x y (by simpa using hx) (by simpa using hy)⟩
theorem A8.uncons {I:Nat->Nat->Prop} {w:World} {us:List Value} {d:D} {ds:List D} (h:A8 I w us (d::ds)):∃u us',us=u::us'/\AtD I w u d/\A8 I w us' ds:=by
 cases us with
 | nil=>have:=h.1;simp at this
 | cons u us=>exact⟨u,us,rfl,h.2 0 u d rfl rfl,by have:=h.1;simpa using this,λi x y hx hy=>h.2 (i+1) x y (by simpa using hx) (by simpa using hy)⟩
theorem A8.one {I:Nat->Nat->Prop} {w:World} {us:List Value} {ds:List D} (h:A8 I w us ds):∀u∈us,u.oneCell'=true:=by
 intro u hu;obtain⟨i,hi⟩:=List.mem_iff_getElem?.1 hu;have hlt:i<ds.length:=by rw[<-h.1];exact(List.getElem?_eq_some_iff.1 hi).1
 exact(h.2 i u _ hi (List.getElem?_eq_getElem hlt)).one
theorem A8.drop {I:Nat->Nat->Prop} {w:World} {us:List Value} {ds:List D} (h:A8 I w us ds) (n:Nat):A8 I w (us.drop n) (ds.drop n) :=
 ⟨by simp[h.1],λi u d hu hd=>h.2 (n+i) u d (by rw[<-List.getElem?_drop];exact hu) (by rw[<-List.getElem?_drop];exact hd)⟩
theorem A8.take {I:Nat->Nat->Prop} {w:World} {us:List Value} {ds:List D} (h:A8 I w us ds) (n:Nat):A8 I w (us.take n) (ds.take n) :=
 ⟨by simp[h.1],λi u d hu hd=>by
  rw[List.getElem?_take] at hu hd
  split at hu
  ·rw[if_pos (by assumption)] at hd;exact h.2 i u d hu hd
  ·cases hu⟩
theorem A8.append {I:Nat->Nat->Prop} {w:World} {us us':List Value} {ds ds':List D} (h:A8 I w us ds) (h':A8 I w us' ds'):A8 I w (us++us') (ds++ds') :=
 ⟨by simp[h.1,h'.1],λi u d hu hd=>by
  by_cases hi:i<us.length
  ·rw[List.getElem?_append_left hi] at hu;rw[List.getElem?_append_left (by rw[<-h.1];exact hi)] at hd;exact h.2 i u d hu hd
  ·rw[List.getElem?_append_right (by omega)] at hu;rw[List.getElem?_append_right (by rw[<-h.1];omega),<-h.1] at hd
   exact h'.2 _ u d hu hd⟩
theorem AtD.slice {I:Nat->Nat->Prop} {w:World} {v:Value} {sz:Nat} {rows:List (List D)} (h:AtD I w v (.sl sz rows)):∃A cap,v=.slice A rows.length cap/\rows.length<=cap/\(rows=[]\/∃b off us,A=some ⟨b,off,none⟩/\Up I b (off+rows.length * sz)/\(∀r∈rows,r.length=sz) /\
  us.length=rows.length * sz/\(∀i u,us[i]?=some u->w.cell? ⟨b,off+i,none⟩=some u)/\A8 I w us rows.flatten):=by
 cases h with
 | nil A cap sz=>exact⟨A,cap,rfl,Nat.zero_le _,.inl rfl⟩
 | sl b off cap sz rows us hcap hI hr hl hc hd=>exact⟨_,cap,rfl,hcap,.inr ⟨b,off,us,rfl,hI,hr,hl,hc,by rw[hl,a0v hr],hd⟩⟩
def b4r (v:Value) (F:List Nat):Value:=.tuple (v::F.map λb=>.pointer (some ⟨b,0,none⟩)).toArray
def gv:Value->Value
 | .tuple us=>us.getD 0 .nilFunc
 | v=>v
inductive AtV (I:Nat->Nat->Prop) (w:World) (g:Nat->Value):Value->V->Prop
 | d {v:Value} {x:D} (h:AtD I w v x):AtV I w g v (.d x)
 | ag (us:List Value) (cs:List V) (hl:us.length=cs.length) (h:∀(i:Nat) (u:Value) (c:V),us[i]?=some u->cs[i]?=some c->AtV I w g u c):AtV I w g (.agg us.toArray) (.ag cs)
 | tu (us:List Value) (cs:List V) (hl:us.length=cs.length) (h:∀(i:Nat) (u:Value) (c:V),us[i]?=some u->cs[i]?=some c->AtV I w g u c):AtV I w g (.tuple us.toArray) (.tu cs)
 | em:AtV I w g (.slice none 0 0) .em
 | own (k:Nat) (A:Option Addr) (n cap:Nat) (h:gv (g k)=.slice A n cap):AtV I w g (.slice A n cap) (.own k)
 | ptr (k off b:Nat) (h:g k=.pointer (some ⟨b,0,none⟩)):AtV I w g (.pointer (some ⟨b,off,none⟩)) (.ptr k off)
 | cl (f:Nat) (us:List Value) (ks:List Nat) (hl:us.length=ks.length) (h:∀(i:Nat) (u:Value) (k:Nat),us[i]?=some u->ks[i]?=some k->u=g k/\∃b,g k=.pointer (some ⟨b,0,none⟩)):AtV I w g (.func (.func f) #[] us.toArray) (.cl f ks)
 | el (k:Nat) (i:Int) (sz off b n cap:Nat) (h:g k=.slice (some ⟨b,0,none⟩) n cap):AtV I w g (.pointer (some ⟨b,i.toNat * sz+off,none⟩)) (.el k i sz off)
 | ro (b o off:Nat) (us:List Value) (cs:List D) (hI:Up I b (o+cs.length)) (hc:∀i u,us[i]?=some u->w.cell? ⟨b,o+i,none⟩=some u) (hd:A8 I w us cs):AtV I w g (.pointer (some ⟨b,o+off,none⟩)) (.ro cs off)
 | mp (k b:Nat) (h:g k=.map (some b)):AtV I w g (.map (some b)) (.mp k)
 | bs (k n b cap:Nat) (h:g k=.pointer (some ⟨b,0,none⟩)) (hn:n<=cap):AtV I w g (.slice (some ⟨b,0,none⟩) n cap) (.bs k n)
 | jk (v:Value):AtV I w g v .jk
theorem AtV.mono {I I':Nat->Nat->Prop} {w w':World} {g:Nat->Value} (hI:∀b h,I b h->I' b h) (hk:A1 I w w') {v:Value} {x:V} (h:AtV I w g v x):AtV I' w' g v x:=by
 induction h with
 | d h=>exact .d (h.mono hI hk)
 | ag us cs hl _ ih=>exact .ag us cs hl ih
 | tu us cs hl _ ih=>exact .tu us cs hl ih
 | em=>exact .em
 | own k A n cap h=>exact .own k A n cap h
 | ptr k off b h=>exact .ptr k off b h
 | cl f us ks hl h=>exact .cl f us ks hl h
 | el k i sz off b n cap h=>exact .el k i sz off b n cap h
 | ro b o off us cs hi hc hd =>
  refine .ro b o off us cs (hi.mono hI) (λi u hu=>?_) (hd.mono hI hk);have hlt:i<cs.length:=by rw[<-hd.1];exact(List.getElem?_eq_some_iff.1 hu).1
  obtain⟨k,hk1,hk2⟩:=hi;exact(hk _ _ hk2 _ (by omega)).trans (hc i u hu)
 | mp k b h=>exact .mp k b h
 | bs k n b cap h hn=>exact .bs k n b cap h hn
 | jk v=>exact .jk v
def n6 (I:Nat->Nat->Prop) (w:World) (g:Nat->Value) (us:List Value) (cs:List V):Prop:=us.length=cs.length/\∀(i:Nat) (u:Value) (c:V),us[i]?=some u->cs[i]?=some c->AtV I w g u c
theorem n6.mono {I I':Nat->Nat->Prop} {w w':World} {g:Nat->Value} (hI:∀b h,I b h->I' b h) (hk:A1 I w w') {us:List Value} {cs:List V} (h:n6 I w g us cs):n6 I' w' g us cs :=
 ⟨h.1,λi u d hu hd=>(h.2 i u d hu hd).mono hI hk⟩
theorem n6.nil (I:Nat->Nat->Prop) (w:World) (g:Nat->Value):n6 I w g [] []:=⟨rfl,λi u d h=>by simp at h⟩
theorem n6.cons {I:Nat->Nat->Prop} {w:World} {g:Nat->Value} {u:Value} {d:V} {us:List Value} {ds:List V} (h:AtV I w g u d) (hs:n6 I w g us ds):n6 I w g (u::us) (d::ds) :=
 ⟨by simp[hs.1],λi x y hx hy=>by
  cases i with
  | zero=>simp at hx hy;subst hx;subst hy;exact h
  | succ i=>exact hs.2 i x y (by simpa using hx) (by simpa using hy)⟩
theorem n6.uncons {I:Nat->Nat->Prop} {w:World} {g:Nat->Value} {us:List Value} {d:V} {ds:List V} (h:n6 I w g us (d::ds)):∃u us',us=u::us'/\AtV I w g u d/\n6 I w g us' ds:=by
 cases us with
 | nil=>have:=h.1;simp at this
 | cons u us=>exact⟨u,us,rfl,h.2 0 u d rfl rfl,by have:=h.1;simpa using this,λi x y hx hy=>h.2 (i+1) x y (by simpa using hx) (by simpa using hy)⟩
theorem n6.unnil {I:Nat->Nat->Prop} {w:World} {g:Nat->Value} {us:List Value} (h:n6 I w g us []):us=[]:=List.eq_nil_of_length_eq_zero h.1
theorem n6.drop {I:Nat->Nat->Prop} {w:World} {g:Nat->Value} {us:List Value} {ds:List V} (h:n6 I w g us ds) (n:Nat):n6 I w g (us.drop n) (ds.drop n) :=
 ⟨by simp[h.1],λi u d hu hd=>h.2 (n+i) u d (by rw[<-List.getElem?_drop];exact hu) (by rw[<-List.getElem?_drop];exact hd)⟩
theorem n6.take {I:Nat->Nat->Prop} {w:World} {g:Nat->Value} {us:List Value} {ds:List V} (h:n6 I w g us ds) (n:Nat):n6 I w g (us.take n) (ds.take n) :=
 ⟨by simp[h.1],λi u d hu hd=>by
  rw[List.getElem?_take] at hu hd
  split at hu
  ·rw[if_pos (by assumption)] at hd;exact h.2 i u d hu hd
  ·cases hu⟩
theorem n6.append {I:Nat->Nat->Prop} {w:World} {g:Nat->Value} {us us':List Value} {ds ds':List V} (h:n6 I w g us ds) (h':n6 I w g us' ds'):n6 I w g (us++us') (ds++ds') :=
 ⟨by simp[h.1,h'.1],λi u d hu hd=>by
  by_cases hi:i<us.length
  ·rw[List.getElem?_append_left hi] at hu;rw[List.getElem?_append_left (by rw[<-h.1];exact hi)] at hd;exact h.2 i u d hu hd
  ·rw[List.getElem?_append_right (by omega)] at hu;rw[List.getElem?_append_right (by rw[<-h.1];omega),<-h.1] at hd
   exact h'.2 _ u d hu hd⟩
theorem n6.set {I:Nat->Nat->Prop} {w:World} {g:Nat->Value} {us:List Value} {ds:List V} (h:n6 I w g us ds) {u:Value} {d:V} (hd:AtV I w g u d) (n:Nat):n6 I w g (us.set n u) (ds.set n d) :=
 ⟨by simp[h.1],λi x y hx hy=>by
  by_cases hi:n=i
  ·subst hi
   have hlt:n<us.length:=by
    have:=(List.getElem?_eq_some_iff.1 hx).1
    simpa using this
   rw[List.getElem?_set_self hlt] at hx;rw[List.getElem?_set_self (by rw[<-h.1];exact hlt)] at hy;injection hx with hx;injection hy with hy;subst hx;subst hy;exact hd
  ·rw[List.getElem?_set_ne hi] at hx hy
   exact h.2 i x y hx hy⟩
theorem a0F {I:Nat->Nat->Prop} {w:World} {g:Nat->Value} {us:List Value} {cs:List V} (h:n6 I w g us cs):AtV I w g (.agg us.toArray) (.ag cs):=.ag us cs h.1 h.2
theorem a0G {I:Nat->Nat->Prop} {w:World} {g:Nat->Value} {us:List Value} {cs:List V} (h:n6 I w g us cs):AtV I w g (.tuple us.toArray) (.tu cs):=.tu us cs h.1 h.2
theorem AtV.unag {I:Nat->Nat->Prop} {w:World} {g:Nat->Value} {v:Value} {cs:List V} (h:AtV I w g v (.ag cs)):∃us,v=.agg us.toArray/\n6 I w g us cs:=by
 cases h with
 | ag us cs hl h=>exact⟨us,rfl,hl,h⟩
theorem AtV.untu {I:Nat->Nat->Prop} {w:World} {g:Nat->Value} {v:Value} {cs:List V} (h:AtV I w g v (.tu cs)):∃us,v=.tuple us.toArray/\n6 I w g us cs:=by
 cases h with
 | tu us cs hl h=>exact⟨us,rfl,hl,h⟩
theorem AtV.unem {I:Nat->Nat->Prop} {w:World} {g:Nat->Value} {v:Value} (h:AtV I w g v .em):v=.slice none 0 0:=by cases h;rfl
theorem AtV.unown {I:Nat->Nat->Prop} {w:World} {g:Nat->Value} {v:Value} {k:Nat} (h:AtV I w g v (.own k)):v=gv (g k)/\∃A n cap,gv (g k)=.slice A n cap:=by
 cases h with
 | own k A n cap h=>exact⟨h.symm,A,n,cap,h⟩
theorem AtV.unbs {I:Nat->Nat->Prop} {w:World} {g:Nat->Value} {v:Value} {k n:Nat} (h:AtV I w g v (.bs k n)):∃b cap,g k=.pointer (some ⟨b,0,none⟩)/\v=.slice (some ⟨b,0,none⟩) n cap/\n<=cap:=by
 cases h with
 | bs k n b cap h hn=>exact⟨b,cap,h,rfl,hn⟩
theorem AtV.unmp {I:Nat->Nat->Prop} {w:World} {g:Nat->Value} {v:Value} {k:Nat} (h:AtV I w g v (.mp k)):∃b,g k=.map (some b)/\v=.map (some b):=by
 cases h with
 | mp k b h=>exact⟨b,h,rfl⟩
theorem AtV.unptr {I:Nat->Nat->Prop} {w:World} {g:Nat->Value} {v:Value} {k off:Nat} (h:AtV I w g v (.ptr k off)):∃b,g k=.pointer (some ⟨b,0,none⟩)/\v=.pointer (some ⟨b,off,none⟩):=by
 cases h with
 | ptr k off b h=>exact⟨b,h,rfl⟩
theorem A8.toV {I:Nat->Nat->Prop} {w:World} (g:Nat->Value):∀ {ds:List D} {us:List Value},A8 I w us ds->n6 I w g us (ofD ds)
 | [],us,h=>by
  rw[List.eq_nil_of_length_eq_zero h.1];exact .nil I w g
 | d::ds,us,h=>by
  obtain⟨u,us',rfl,h1,h2⟩:=h.uncons;exact .cons (.d h1) (A8.toV g h2)
section
structure Fr (X:Nat->Prop) (w w':World):Prop where
 os:w'.os=w.os
 tape:w'.tape=w.tape
 output:w'.output=w.output
 size:w.heap.size<=w'.heap.size
 block:∀b,b<w.heap.size->¬X b->w'.heap[b]?=w.heap[b]?
theorem Fr.refl (X:Nat->Prop) (w:World):Fr X w w:=⟨rfl,rfl,rfl,Nat.le_refl _,λ_ _ _=>rfl⟩
def Tabs (X:Nat->Prop) (w:World):Prop:=∀t∈tabsOf,w.var? Tryz.prog t.1=some (t.2.2.map λz=>Value.int t.2.1 z).toArray/\∀g,Tryz.prog.globalNamed t.1=some g->¬X g
theorem b4s {w:World} {name:String} {a:Array Value} (h:w.var? Tryz.prog name=some a):∃g t c,Tryz.prog.globalNamed name=some g/\w.heap[g]?=some (.cells a t c)/\g<w.heap.size:=by
 unfold World.var? at h;cases hg:Tryz.prog.globalNamed name with
 | none=>rw[hg] at h;cases h
 | some g =>
  rw[hg] at h;simp only[Option.bind_some] at h;cases ho:w.heap[g]? with
  | none=>rw[ho] at h;cases h
  | some o =>
   rw[ho] at h;cases o with
   | cells a' t c=>injection h with h;subst h;exact⟨g,t,c,rfl,ho,(Array.getElem?_eq_some_iff.1 ho).1⟩
   | _=>cases h
theorem b4t {w:World} {name:String} {a:Array Value} {g:Nat} {t:TypeId} {c:Nat×Nat} (hg:Tryz.prog.globalNamed name=some g) (h:w.heap[g]?=some (.cells a t c)):w.var? Tryz.prog name=some a:=by
 unfold World.var?;rw[hg];simp only[Option.bind_some,h]
theorem Tabs.fr {X X':Nat->Prop} {w w':World} (h:Tabs X w) (hf:Fr X w w') (hX:∀b,b<w.heap.size->¬X b->¬X' b):Tabs X' w':=λt ht=>by
 obtain⟨h1,h2⟩:=h t ht;obtain⟨g,ty,c,e1,e2,e3⟩:=b4s h1;exact⟨b4t e1 ((hf.block g e3 (h2 g e1)).trans e2),λg' hg'=>by rw[e1] at hg';injection hg' with hg';subst hg';exact hX _ e3 (h2 _ e1)⟩
def Wld (I:Nat->Nat->Prop) (w:World):Prop:=(∀b h,I b h->b<w.heap.size)/\Tabs (λ_=>False) w
structure W0 where
 w:World
 g:Nat->Value
 n:Nat
 d:List Deferred
def gbl:Value->Nat->Prop
 | .pointer (some a),b=>a.block=b
 | .slice (some a) _ _,b=>a.block=b
 | .map (some c),b=>c=b
 | .tuple us,b=>.pointer (some ⟨b,0,none⟩)∈us.toList
 | _,_=>False
theorem a0P {A:Option Addr} {n cap:Nat} {F:List Nat} {b:Nat}:gbl (b4r (.slice A n cap) F) b↔b∈F:=by
 show Value.pointer (some ⟨b,0,none⟩)∈Value.slice A n cap::F.map (λb=>.pointer (some ⟨b,0,none⟩))↔_
 simp
def Q0:Value->Bool
 | .pointer _=>true
 | .map _=>true
 | .agg _=>true
 | _=>false
def a1k (X:Nat->Prop) (w0:W0) (b:Nat):Prop:=w0.w.heap.size<=b\/X b
def AtR (I:Nat->Nat->Prop) (w:World) (v:Value):R->Prop
 | .one x=>AtD I w v x
 | .ag xs=>∃us,v=.agg us.toArray/\A8 I w us xs
theorem AtR.mono {I I':Nat->Nat->Prop} {w w':World} (hI:∀b h,I b h->I' b h) (hk:A1 I w w') {v:Value} {r:R} (h:AtR I w v r):AtR I' w' v r:=by
 cases r with
 | one x=>exact AtD.mono hI hk h
 | ag xs=>obtain⟨us,h1,h2⟩:=h;exact⟨us,h1,h2.mono hI hk⟩
def a8n (I:Nat->Nat->Prop) (w:World) (kt:Nat) (l:List MapEntry) (es:List (R×R)):Prop:=l.length=es.length/\∀(i:Nat) (e:MapEntry) (p:R×R),l[i]?=some e->es[i]?=some p->AtR I w e.key p.1/\AtR I w e.val p.2/\a1A kt p.1=true
theorem a8n.mono {I I':Nat->Nat->Prop} {w w':World} (hI:∀b h,I b h->I' b h) (hk:A1 I w w') {kt:Nat} {l:List MapEntry} {es:List (R×R)} (h:a8n I w kt l es):a8n I' w' kt l es :=
 ⟨h.1,λi e p he hp=>by obtain⟨h1,h2,h3⟩:=h.2 i e p he hp;exact⟨h1.mono hI hk,h2.mono hI hk,h3⟩⟩
def U4 (X:Nat->Prop) (w0:W0) (I:Nat->Nat->Prop) (w:World) (g:Nat->Value) (k:Nat):O->Prop
 | .dead=>True
 | .box cs=>∃(b:Nat) (us:List Value) (t:TypeId×List Value),g k=.pointer (some ⟨b,0,none⟩)/\w.heap[b]?=some (.cells (us++t.2).toArray t.1 (0,0))/\n6 I w g us cs/\(∀u∈us,u.oneCell'=true)/\(∀h,¬I b h)/\a1k X w0 b
 | .mp kt es=>∃b l c,g k=.map (some b)/\w.heap[b]?=some (.map l c)/\a8n I w kt l.toList es/\(∀h,¬I b h)/\a1k X w0 b
 | .kl ks=>∃us,g k=.agg us/\us.size<=k/\∀(j:Nat) (u:Value),us[j]?=some u->u=.nilFunc\/g j=u\/j∈ks
 | .ob T vs=>∃b:Nat,g k=.pointer (some ⟨b,0,none⟩)/\w.heap[b]?=some (.cells vs.toArray T (0,0))/\(∀h,¬I b h)/\a1k X w0 b
 | .it P=>∃A n cap F,g k=b4r (.slice A n cap) F/\P w (.slice A n cap) F/\(∀w':World,(∀b∈F,w'.heap[b]?=w.heap[b]?)->P w' (.slice A n cap) F)/\∀b∈F,(∃(c:Array Value) (t:TypeId),w.heap[b]?=some (.cells c t (0,0)))/\(∀h,¬I b h)/\a1k X w0 b
 | .row z e rows=>∃us,w.ownsRow 0 e (ty e).sz (g k) rows.length us/\(∀r∈rows,r.length=(ty e).sz)/\A8 I w us rows.flatten /\
   ∀b,(g k).ownBlock=some b->(z=true->I b (rows.length * (ty e).sz))/\(∀h,I b h->z=true/\h<=rows.length * (ty e).sz)/\a1k X w0 b
def J1 (s:S) (k:Nat):Prop:=∃o,s.o[k]?=some o/\o≠.dead
structure RelI (I0:Nat->Nat->Prop) (X:Nat->Prop) (w0:W0) (I:Nat->Nat->Prop) (g:Nat->Value) (s:S) (a:Act) (w:World):Prop where
 im:∀b h,I0 b h->I b h
 lt:∀b h,I b h->b<w.heap.size/\(b<w0.w.heap.size->I0 b h\/X b)
 fr:Fr X w0.w w
 kp:A1 I0 w0.w w
 lo:w0.n<=s.o.length
 st:∀k,k<w0.n->Q0 (w0.g k)=true->g k=w0.g k
 obj:∀k o,s.o[k]?=some o->U4 X w0 I w g k o
 dis:∀j k b,J1 s j->J1 s k->gbl (g j) b->gbl (g k) b->j=k
 out:∀k,s.o.length<=k->g k=.nilFunc
 tmp:n6 I w g a.tmps.toList s.t
 dfr:a.defers=w0.d/\Tabs X w0.w
def Z3 (I0:Nat->Nat->Prop) (X:Nat->Prop) (w0:W0) (s:S) (a:Act) (w:World):Prop:=∃I g,RelI I0 X w0 I g s a w
theorem r6:∀l:List O,o7 l=l.length
 | []=>rfl
 | _::l=>by rw[o7,r6 l];rfl
theorem J2 {α:Type}:∀l:List α,G5 l=l.length
 | []=>rfl
 | _::l=>by rw[G5,J2 l];rfl
theorem Z4 (o:O):∀l:List O,y8 l o=l++[o]
 | []=>rfl
 | x::l=>by rw[y8,Z4 o l];rfl
theorem H5 (o:O):∀(l:List O) (k:Nat),J8 l k o=l.set k o
 | [],_=>rfl
 | _::_,0=>rfl
 | x::l,k+1=>by rw[J8,H5 o l k];rfl
theorem a07 (v:V):∀(l:List V) (k:Nat),I4 l k v=l.set k v
 | [],_=>rfl
 | _::_,0=>rfl
 | x::l,k+1=>by rw[I4,a07 v l k];rfl
theorem A5:∀ {l:List O} {k:Nat} {o:O},y5 l k=o->o≠.dead->l[k]?=some o
 | [],_,_,h,hd=>absurd h.symm hd
 | x::_,0,_,h,_=>by rw[y5] at h;rw[h];rfl
 | x::l,k+1,_,h,hd=>by rw[y5] at h;simpa using A5 h hd
theorem U6:∀ {l:List V} {k:Nat} {v:V},o6 l k=v->v≠.jk->l[k]?=some v
 | [],_,_,h,hd=>absurd h.symm hd
 | x::_,0,_,h,_=>by rw[o6] at h;rw[h];rfl
 | x::l,k+1,_,h,hd=>by rw[o6] at h;simpa using U6 h hd
theorem a1M:∀(l:List V) (k:Nat),l[k]?=some (o6 l k)\/(l.length<=k/\o6 l k=.jk)
 | [],_=>.inr ⟨by simp,rfl⟩
 | x::_,0=>.inl rfl
 | x::l,k+1=>by
  rcases a1M l k with h|⟨h1,h2⟩
  ·exact .inl (by simpa [o6] using h)
  ·exact .inr ⟨by simp;exact h1,by rw[o6];exact h2⟩
theorem Z5 {α:Type}:∀(n:Nat) (l:List α),K9 n l=l.drop n
 | 0,_=>rfl
 | _+1,[]=>rfl
 | n+1,_::l=>by rw[K9,Z5 n l];rfl
theorem Z6 {α:Type}:∀ {n:Nat} {l m:List α},H6 n l=some m->m=l.take n/\m.length=n
 | 0,_,_,h=>by injection h with h;subst h;simp
 | _+1,[],_,h=>by cases h
 | n+1,x::l,m,h=>by
  rw[H6] at h
  split at h
  ·rename_i t ht;injection h with h;subst h;have:=Z6 ht;exact⟨by simp[this.1],by simp[this.2]⟩
  ·cases h
theorem B2:∀ {n m:Nat},K7 n m=true↔n=m
 | 0,0=>by simp[K7]
 | 0,m+1=>by simp[K7]
 | n+1,0=>by simp[K7]
 | n+1,m+1=>by rw[K7,B2];omega
theorem a1l {n m:Nat}:K7 n m=false↔n≠m:=by
 rw[<-Bool.not_eq_true,B2]
theorem U7 {α:Type}:∀ {l:List α} {n:Nat} {m r:List α},splice l n m=some r->r=l.take n++m++l.drop (n+m.length)/\n+m.length<=l.length
 | l,0,[],r,h=>by
  rw[splice] at h;injection h with h;subst h
  simp
 | x::l,0,y::ys,r,h=>by
  rw[splice] at h
  split at h
  ·rename_i t ht;injection h with h;subst h;obtain⟨e,hl⟩:=U7 ht;refine⟨?_,by simp at hl ⊢;omega⟩;rw[e]
   simp
  ·cases h
 | x::l,n+1,ys,r,h=>by
  rw[splice] at h
  split at h
  ·rename_i t ht;injection h with h;subst h;obtain⟨e,hl⟩:=U7 ht;refine⟨?_,by simp at hl ⊢;omega⟩;rw[e]
   simp[Nat.add_right_comm]
  ·cases h
 | [],n+1,ys,r,h=>by rw[splice] at h;cases h
 | [],0,y::ys,r,h=>by rw[splice] at h;cases h
theorem n6.splice {I:Nat->Nat->Prop} {w:World} {g:Nat->Value} {us vs:List Value} {cs ds r:List V} {n:Nat} (h:n6 I w g us cs) (h':n6 I w g vs ds) (hr:splice cs n ds=some r):n6 I w g (us.take n++vs++us.drop (n+vs.length)) r:=by
 obtain⟨e,_⟩:=U7 hr;subst e;rw[h'.1];exact((h.take n).append h').append (h.drop _)
section
variable {I0:Nat->Nat->Prop} {X:Nat->Prop} {w0:W0} {I:Nat->Nat->Prop} {g:Nat->Value} {s:S} {a:Act} {w:World}
theorem a7o (v:Value):AtV I w g v (a4d v):=by
 unfold a4d
 split
 ·exact .em
 ·exact .jk _
 ·exact .jk _
 ·rename_i h1 h2 h3;refine .d (.sc _ ?_);cases v <;> first|rfl|(exfalso;exact h2 _ rfl)|(exfalso;exact h3 _ rfl)
theorem K8:∀l:List Value,n6 I w g l (C6 l)
 | []=>.nil I w g
 | x::l=>.cons (a7o x) (K8 l)
theorem RelI.get (h:RelI I0 X w0 I g s a w) (x:Operand):AtV I w g (a.eval x) (s.get x):=by
 cases x with
 | tmp i =>
  show AtV I w g (a.tmps.getD i undef) (o6 s.t i)
  rcases a1M s.t i with h1|⟨_,h2⟩
  ·have hi:i<s.t.length:=(List.getElem?_eq_some_iff.1 h1).1;have hi':i<a.tmps.size:=by have h2:=h.tmp.1;rw[Array.length_toList] at h2;rw[h2];exact hi
   have h3:=h.tmp.2 i a.tmps[i] _ (by simp[hi']) h1;rw[Array.getD_eq_getD_getElem?,Array.getElem?_eq_getElem hi'];exact h3
  ·rw[h2];exact .jk _
 | const v=>exact a7o v
 | global k=>exact .jk _
 | func f=>exact .cl f [] [] rfl λi u k hu _=>by simp at hu
theorem RelI.gets (h:RelI I0 X w0 I g s a w):∀l:List Operand,n6 I w g (l.map a.eval) (G3 s.get l)
 | []=>.nil I w g
 | x::l=>.cons (h.get x) (h.gets l)
theorem RelI.put (h:RelI I0 X w0 I g s a w) {v:Value} {x:V} (hv:AtV I w g v x) (dst:Option Nat):RelI I0 X w0 I g (s.put dst x) (a.put dst v) w:=by
 cases dst with
 | none=>exact h
 | some d =>
  refine⟨h.im,h.lt,h.fr,h.kp,h.lo,h.st,h.obj,h.dis,h.out,?_,h.dfr⟩;show n6 I w g (a.tmps.setIfInBounds d v).toList (I4 s.t d x);rw[a07,Array.toList_setIfInBounds];exact h.tmp.set hv d
theorem Fr.drew {wz:World} (h:Fr X wz w):Fr X wz w.drew:=⟨h.os,h.tape,h.output,h.size,h.block⟩
theorem Fr.drewN {wz:World} (h:Fr X wz w) (n:Nat):Fr X wz (w.drewN n):=⟨h.os,h.tape,h.output,h.size,h.block⟩
theorem RelI.drew (h:RelI I0 X w0 I g s a w):RelI I0 X w0 I g s a w.drew:=by
 have hk:A1 I w w.drew:=λ_ _ _ _ _=>rfl
 refine⟨h.im,h.lt,h.fr.drew,h.kp,h.lo,h.st,λk o ho=>?_,h.dis,h.out,h.tmp.mono (λ_ _ h=>h) hk,h.dfr⟩;have:=h.obj k o ho;cases o with
 | dead=>exact True.intro
 | box cs=>obtain⟨b,us,t,h1,h2,h3,h4,h5,h6⟩:=this;exact⟨b,us,t,h1,h2,h3.mono (λ_ _ h=>h) hk,h4,h5,h6⟩
 | row z e rows=>obtain⟨us,h1,h2,h3,h4⟩:=this;exact⟨us,h1,h2,h3.mono (λ_ _ h=>h) hk,h4⟩
 | mp kt es=>obtain⟨b,l,c,h1,h2,h3,h4⟩:=this;exact⟨b,l,c,h1,h2,h3.mono (λ_ _ h=>h) hk,h4⟩
 | it P=>obtain⟨A,n,cap,F,h1,h2,h3,h4⟩:=this;exact⟨A,n,cap,F,h1,h3 _ λ_ _=>rfl,h3,h4⟩
 | ob T vs=>obtain⟨b,h1,h2,h3⟩:=this;exact⟨b,h1,h2,h3⟩
 | kl ks=>exact this
theorem U4.blk {k:Nat} {o:O} (h:U4 X w0 I w g k o) (hd:o≠.dead):∀b,gbl (g k) b->b<w.heap.size/\a1k X w0 b:=by
 intro b hb;cases o with
 | dead=>exact absurd rfl hd
 | box cs =>
  obtain⟨b',us,t,h1,h2,h3,h4,h5,h6⟩:=h;rw[h1] at hb;obtain rfl:b'=b:=hb;exact⟨(Array.getElem?_eq_some_iff.1 h2).1,h6⟩
 | row z e rows =>
  obtain⟨us,h1,h2,h3,h4⟩:=h
  rcases h1.2 with⟨e0,_⟩|⟨g',cap,cur,e0,_,hh,_⟩
  ·rw[e0] at hb;exact hb.elim
  ·rw[e0] at hb;obtain rfl:g'=b:=hb;exact⟨(Array.getElem?_eq_some_iff.1 hh).1,(h4 _ (by rw[e0];rfl)).2.2⟩
 | mp kt es =>
  obtain⟨b',l,c,h1,h2,h3,h4,h5⟩:=h;rw[h1] at hb;obtain rfl:b'=b:=hb;exact⟨(Array.getElem?_eq_some_iff.1 h2).1,h5⟩
 | ob T vs =>
  obtain⟨b',h1,h2,h4,h5⟩:=h;rw[h1] at hb;obtain rfl:b'=b:=hb;exact⟨(Array.getElem?_eq_some_iff.1 h2).1,h5⟩
 | it P =>
  obtain⟨A,n,cap,F,h1,h2,h3,h4⟩:=h;rw[h1,a0P] at hb;obtain⟨⟨c,t,h5⟩,h6⟩:=h4 b hb;exact⟨(Array.getElem?_eq_some_iff.1 h5).1,h6.2⟩
 | kl ks =>
  obtain⟨us,h1,_⟩:=h;rw[h1] at hb;exact hb.elim
theorem RelI.tabs (h:RelI I0 X w0 I g s a w) {X':Nat->Prop} (hX:∀b,X' b->a1k X w0 b):Tabs X' w:=h.dfr.2.fr h.fr λb hb hn hx=>(hX b hx).elim (λh3=>absurd hb (Nat.not_lt.2 h3)) hn
theorem RelI.wld (h:RelI I0 X w0 I g s a w):Wld I w:=⟨λb k hb=>(h.lt b k hb).1,h.tabs λ_ h=>h.elim⟩
theorem U4.keep {k:Nat} {o:O} {w':World} {I':Nat->Nat->Prop} (h:U4 X w0 I w g k o) (hI:∀b h,I b h->I' b h) (hk:A1 I w w') (hb:∀b,gbl (g k) b->w'.heap[b]?=w.heap[b]?) (hI':∀b,gbl (g k) b->∀h,I' b h->I b h):U4 X w0 I' w' g k o:=by
 cases o with
 | dead=>exact True.intro
 | box cs =>
  obtain⟨b,us,t,h1,h2,h3,h4,h5,h6⟩:=h;have hg:gbl (g k) b:=by rw[h1];rfl
  exact⟨b,us,t,h1,(hb b hg).trans h2,h3.mono hI hk,h4,λh h'=>h5 h (hI' b hg h h'),h6⟩
 | row z e rows =>
  obtain⟨us,h1,h2,h3,h4⟩:=h
  have hblk:∀b,(g k).ownBlock=some b->gbl (g k) b:=λb hb'=>by
   rcases h1.2 with⟨e0,_⟩|⟨g',cap,cur,e0,_⟩ <;> rw[e0] at hb' ⊢
   ·cases hb'
   ·exact Option.some.inj hb'
  refine⟨us,⟨h1.1,?_⟩,h2,h3.mono hI hk,λb hb'=>⟨λhz=>hI _ _ ((h4 b hb').1 hz),λh h'=>(h4 b hb').2.1 h (hI' b (hblk b hb') h h'),(h4 b hb').2.2⟩⟩
  rcases h1.2 with h0|⟨g',cap,cur,e0,hb',hh,r⟩
  ·exact .inl h0
  ·exact .inr ⟨g',cap,cur,e0,hb',(hb g' (by rw[e0];rfl)).trans hh,r⟩
 | mp kt es =>
  obtain⟨b,l,c,h1,h2,h3,h4,h5⟩:=h;have hg:gbl (g k) b:=by rw[h1];rfl
  exact⟨b,l,c,h1,(hb b hg).trans h2,h3.mono hI hk,λh h'=>h4 h (hI' b hg h h'),h5⟩
 | ob T vs =>
  obtain⟨b,h1,h2,h4,h5⟩:=h;have hg:gbl (g k) b:=by rw[h1];rfl
  exact⟨b,h1,(hb b hg).trans h2,λh h'=>h4 h (hI' b hg h h'),h5⟩
 | it P =>
  obtain⟨A,n,cap,F,h1,h2,h3,h4⟩:=h;have hg:∀b∈F,gbl (g k) b:=λb hb=>by rw[h1,a0P];exact hb
  have hF:∀b∈F,w'.heap[b]?=w.heap[b]?:=λb hm=>hb b (hg b hm)
  refine⟨A,n,cap,F,h1,h3 w' hF,λw2 h2=>h3 w2 λb hb=>(h2 b hb).trans (hF b hb),λb hm=>⟨?_,λh h'=>(h4 b hm).2.1 h (hI' b (hg b hm) h h'),(h4 b hm).2.2⟩⟩;obtain⟨c,t,h5⟩:=(h4 b hm).1;exact⟨c,t,(hF b hm).trans h5⟩
 | kl ks=>exact h
theorem RelI.grow (h:RelI I0 X w0 I g s a w) {w':World} (hb:Below w.heap.size w w') {I':Nat->Nat->Prop} (hI:∀b k,I b k->I' b k) (hI':∀b k,I' b k->I b k\/(w.heap.size<=b/\b<w'.heap.size)):RelI I0 X w0 I' g s a w':=by
 have hk:A1 I w w':=λb k hbk i _=>hb.cell (p:=⟨b,i,none⟩) (h.lt b k hbk).1
 refine⟨λb k hb=>hI _ _ (h.im b k hb),λb k hbk=>?_,?_,h.kp.trans λb k hbk i hi=>hk b k (h.im b k hbk) i hi,h.lo,h.st,λk o ho=>?_,h.dis,h.out,h.tmp.mono hI hk,h.dfr⟩
 ·rcases hI' b k hbk with h1|⟨h1,h2⟩
  ·exact⟨Nat.lt_of_lt_of_le (h.lt b k h1).1 hb.size,(h.lt b k h1).2⟩
  ·exact⟨h2,λh3=>absurd (Nat.lt_of_lt_of_le h3 h.fr.size) (by omega)⟩
 ·exact⟨hb.os.trans h.fr.os,hb.tape.trans h.fr.tape,hb.output.trans h.fr.output,Nat.le_trans h.fr.size hb.size,λb hb1 hX=>(hb.block b (Nat.lt_of_lt_of_le hb1 h.fr.size)).trans (h.fr.block b hb1 hX)⟩
 ·cases hd:o with
  | dead=>exact True.intro
  | box cs =>
   have ho':=h.obj k o ho;rw[hd] at ho';refine ho'.keep hI hk (λb hb'=>hb.block b (ho'.blk (by simp) b hb').1) λb hb' k' hk'=>?_
   rcases hI' b k' hk' with h1|⟨h1,_⟩
   ·exact h1
   ·have:=(ho'.blk (by simp) b hb').1;omega
  | row z e rows =>
   have ho':=h.obj k o ho;rw[hd] at ho';refine ho'.keep hI hk (λb hb'=>hb.block b (ho'.blk (by simp) b hb').1) λb hb' k' hk'=>?_
   rcases hI' b k' hk' with h1|⟨h1,_⟩
   ·exact h1
   ·have:=(ho'.blk (by simp) b hb').1;omega
  | mp kt es =>
   have ho':=h.obj k o ho;rw[hd] at ho';refine ho'.keep hI hk (λb hb'=>hb.block b (ho'.blk (by simp) b hb').1) λb hb' k' hk'=>?_
   rcases hI' b k' hk' with h1|⟨h1,_⟩
   ·exact h1
   ·have:=(ho'.blk (by simp) b hb').1;omega
  | ob T vs =>
   have ho':=h.obj k o ho;rw[hd] at ho';refine ho'.keep hI hk (λb hb'=>hb.block b (ho'.blk (by simp) b hb').1) λb hb' k' hk'=>?_
   rcases hI' b k' hk' with h1|⟨h1,_⟩
   ·exact h1
   ·have:=(ho'.blk (by simp) b hb').1;omega
  | it P =>
   have ho':=h.obj k o ho;rw[hd] at ho';refine ho'.keep hI hk (λb hb'=>hb.block b (ho'.blk (by simp) b hb').1) λb hb' k' hk'=>?_
   rcases hI' b k' hk' with h1|⟨h1,_⟩
   ·exact h1
   ·have:=(ho'.blk (by simp) b hb').1;omega
  | kl ks =>
   have ho':=h.obj k o ho;rw[hd] at ho';refine ho'.keep hI hk (λb hb'=>hb.block b (ho'.blk (by simp) b hb').1) λb hb' k' hk'=>?_
   rcases hI' b k' hk' with h1|⟨h1,_⟩
   ·exact h1
   ·have:=(ho'.blk (by simp) b hb').1;omega
end
end
section
theorem AtV.more {I:Nat->Nat->Prop} {w:World} {g g':Nat->Value} (hg:∀k,g k≠.nilFunc->g' k=g k) {v:Value} {x:V} (h:AtV I w g v x):AtV I w g' v x:=by
 induction h with
 | d h=>exact .d h
 | ag us cs hl _ ih=>exact .ag us cs hl ih
 | tu us cs hl _ ih=>exact .tu us cs hl ih
 | em=>exact .em
 | own k A n cap h=>exact .own k A n cap ((congrArg gv (hg k (by intro e;rw[e] at h;cases h))).trans h)
 | ptr k off b h=>exact .ptr k off b ((hg k (by rw[h];simp)).trans h)
 | cl f us ks hl h =>
  exact .cl f us ks hl λi u k hu hk=>by
   obtain⟨h1,b,h2⟩:=h i u k hu hk;have h3:=hg k (by rw[h2];simp);exact⟨h1.trans h3.symm,b,h3.trans h2⟩
 | el k i sz off b n cap h=>exact .el k i sz off b n cap ((hg k (by rw[h];simp)).trans h)
 | ro b o off us cs hi hc hd=>exact .ro b o off us cs hi hc hd
 | mp k b h=>exact .mp k b ((hg k (by rw[h];simp)).trans h)
 | bs k n b cap h hn=>exact .bs k n b cap ((hg k (by rw[h];simp)).trans h) hn
 | jk v=>exact .jk v
theorem n6.more {I:Nat->Nat->Prop} {w:World} {g g':Nat->Value} (hg:∀k,g k≠.nilFunc->g' k=g k) {us:List Value} {cs:List V} (h:n6 I w g us cs):n6 I w g' us cs :=
 ⟨h.1,λi u d hu hd=>(h.2 i u d hu hd).more hg⟩
theorem U4.more {X:Nat->Prop} {w0:W0} {I:Nat->Nat->Prop} {w:World} {g g':Nat->Value} (hg:∀k,g k≠.nilFunc->g' k=g k) {k:Nat} {o:O} (h:U4 X w0 I w g k o):U4 X w0 I w g' k o:=by
 cases o with
 | dead=>exact True.intro
 | box cs =>
  obtain⟨b,us,t,h1,h2,h3,h4⟩:=h;exact⟨b,us,t,(hg k (by rw[h1];simp)).trans h1,h2,h3.more hg,h4⟩
 | row z e rows =>
  obtain⟨us,h1,h2,h3,h4⟩:=h;have:g' k=g k:=hg k (by rcases h1.2 with⟨e0,_⟩|⟨g',cap,cur,e0,_⟩ <;> rw[e0] <;> simp);exact⟨us,by rw[this];exact h1,h2,h3,by rw[this];exact h4⟩
 | mp kt es =>
  obtain⟨b,l,c,h1,h2⟩:=h;exact⟨b,l,c,(hg k (by rw[h1];simp)).trans h1,h2⟩
 | ob T vs =>
  obtain⟨b,h1,h2⟩:=h;exact⟨b,(hg k (by rw[h1];simp)).trans h1,h2⟩
 | it P =>
  obtain⟨A,n,cap,F,h1,h2⟩:=h;exact⟨A,n,cap,F,(hg k (by rw[h1];simp[b4r])).trans h1,h2⟩
 | kl ks =>
  obtain⟨us,h1,h2,h3⟩:=h;refine⟨us,(hg k (by rw[h1];simp)).trans h1,h2,λj u hu=>?_⟩
  rcases h3 j u hu with h4|h4|h4
  ·exact .inl h4
  ·by_cases e:u=.nilFunc
   ·exact .inl e
   ·exact .inr (.inl ((hg j (by rw[h4];exact e)).trans h4))
  ·exact .inr (.inr h4)
section
variable {I0:Nat->Nat->Prop} {X:Nat->Prop} {w0:W0} {I:Nat->Nat->Prop} {g:Nat->Value} {s:S} {a:Act} {w:World}
def upd (g:Nat->Value) (k:Nat) (v:Value):Nat->Value:=λj=>if j=k then v else g j
theorem n7 (g:Nat->Value) (k:Nat) (v:Value):upd g k v k=v:=if_pos rfl
theorem A2 {g:Nat->Value} {k:Nat} {v:Value} {j:Nat} (h:j≠k):upd g k v j=g j:=if_neg h
theorem RelI.fresh (h:RelI I0 X w0 I g s a w) (v:Value):∀k,g k≠.nilFunc->upd g s.o.length v k=g k:=λk hk=>A2 λe=>hk (h.out k (by omega))
theorem RelI.newObj (h:RelI I0 X w0 I g s a w) (o:O) (v:Value) (ho:U4 X w0 I w (upd g s.o.length v) s.o.length o) (hdis:∀j b,J1 s j->gbl (g j) b->¬gbl v b):RelI I0 X w0 I (upd g s.o.length v) (s.obj o) a w:=by
 have hg:=h.fresh v
 have hget:∀k o',(s.o++[o])[k]?=some o'->(k<s.o.length/\s.o[k]?=some o')\/(k=s.o.length/\o'=o):=λk o' hk=>by
  rcases Nat.lt_or_ge k s.o.length with hlt|hge
  ·rw[List.getElem?_append_left hlt] at hk;exact .inl ⟨hlt,hk⟩
  ·rw[List.getElem?_append_right hge] at hk
   have h0:k - s.o.length=0:=by
    have:=(List.getElem?_eq_some_iff.1 hk).1;simp at this;omega
   rw[h0] at hk
   simp at hk
   exact .inr ⟨by omega,hk.symm⟩
 have ho2:(s.obj o).o=s.o++[o]:=Z4 o s.o;refine⟨h.im,h.lt,h.fr,h.kp,by rw[ho2,List.length_append];exact Nat.le_trans h.lo (Nat.le_add_right _ _),λk hk hr=>by rw[A2 (by have:=h.lo;omega)];exact h.st k hk hr,λk o' hk=>?_,λj k b hj hk hbj hbk=>?_,λk hk=>?_,h.tmp.more hg,h.dfr⟩
 ·rw[ho2] at hk
  rcases hget k o' hk with⟨hlt,hk'⟩|⟨rfl,rfl⟩
  ·exact(h.obj k o' hk').more hg
  ·exact ho
 ·obtain⟨oj,hoj,hdj⟩:=hj;obtain⟨ok,hok,hdk⟩:=hk;rw[ho2] at hoj hok
  rcases hget j oj hoj with⟨hlj,hj'⟩|⟨rfl,rfl⟩ <;> rcases hget k ok hok with⟨hlk,hk'⟩|⟨rfl,rfl⟩
  ·rw[A2 (by omega)] at hbj hbk;exact h.dis j k b ⟨_,hj',hdj⟩ ⟨_,hk',hdk⟩ hbj hbk
  ·rw[A2 (by omega)] at hbj;rw[n7] at hbk;exact absurd hbk (hdis j b ⟨_,hj',hdj⟩ hbj)
  ·rw[A2 (by omega)] at hbk;rw[n7] at hbj;exact absurd hbj (hdis k b ⟨_,hk',hdk⟩ hbk)
  ·rfl
 ·rw[ho2,List.length_append,List.length_singleton] at hk;rw[A2 (by omega)];exact h.out k (by omega)
theorem RelI.blk_lt (h:RelI I0 X w0 I g s a w) {j b:Nat} (hj:J1 s j) (hb:gbl (g j) b):b<w.heap.size:=by
 obtain⟨o,ho,hd⟩:=hj;exact((h.obj j o ho).blk hd b hb).1
theorem RelI.box (h:RelI I0 X w0 I g s a w) {us:List Value} {cs:List V} (hus:n6 I w g us cs) (h1:∀u∈us,u.oneCell'=true) (t:TypeId) :
  ∃g',g' s.o.length=.pointer (some ⟨w.heap.size,0,none⟩)/\RelI I0 X w0 I g' (s.obj (.box cs)) a (w.alloc (.cells us.toArray t)):=by
 have hb:Below w.heap.size w (w.alloc (.cells us.toArray t)):=(Below.refl _ _).alloc (Nat.le_refl _) _;have h2:=h.grow hb (I':=I) (λ_ _ h=>h) (λ_ _ h=>.inl h);have hk:A1 I w (w.alloc (.cells us.toArray t)):=λb k hbk i _=>hb.cell (p:=⟨b,i,none⟩) (h.lt b k hbk).1
 refine⟨upd g s.o.length (.pointer (some ⟨w.heap.size,0,none⟩)),n7 ..,h2.newObj _ _ ⟨w.heap.size,us,(t,[]),n7 ..,by rw[List.append_nil];exact heap_alloc_new w _,(hus.more (h.fresh _)).mono (λ_ _ h=>h) hk,h1,λk hk'=>?_,.inl h.fr.size⟩ λj b hj hbj e=>?_⟩
 ·exact absurd (h.lt _ _ hk').1 (by omega)
 ·have e:w.heap.size=b:=e;have:=h.blk_lt hj hbj;omega
theorem RelI.obNew (h:RelI I0 X w0 I g s a w) (us:List Value) (t:TypeId) :
  ∃g',g' s.o.length=.pointer (some ⟨w.heap.size,0,none⟩)/\RelI I0 X w0 I g' (s.obj (.ob t us)) a (w.alloc (.cells us.toArray t)):=by
 have hb:Below w.heap.size w (w.alloc (.cells us.toArray t)):=(Below.refl _ _).alloc (Nat.le_refl _) _;have h2:=h.grow hb (I':=I) (λ_ _ h=>h) (λ_ _ h=>.inl h);refine⟨upd g s.o.length (.pointer (some ⟨w.heap.size,0,none⟩)),n7 ..,h2.newObj _ _ ⟨w.heap.size,n7 ..,heap_alloc_new w _,λk hk'=>?_,.inl h.fr.size⟩ λj b hj hbj e=>?_⟩
 ·exact absurd (h.lt _ _ hk').1 (by omega)
 ·have e:w.heap.size=b:=e;have:=h.blk_lt hj hbj;omega
theorem Z7 {s:S} {k:Nat} {o o':O} (hk:s.o[k]?=some o) (hd:o≠.dead) {j:Nat} (h:J1 ⟨s.t,s.o.set k o'⟩ j):J1 s j:=by
 obtain⟨oj,hoj,hdj⟩:=h
 by_cases e:k=j
 ·subst e;exact⟨o,hk,hd⟩
 ·simp only[List.getElem?_set_ne e] at hoj;exact⟨oj,hoj,hdj⟩
theorem RelI.store (h:RelI I0 X w0 I g s a w) {k n:Nat} {cs ds r:List V} {vs:List Value} (hk:s.o[k]?=some (.box cs)) (hv:n6 I w g vs ds) (h1:∀u∈vs,u.oneCell'=true) (hr:splice cs n ds=some r) :
  ∃(b:Nat) (us:List Value) (t:TypeId),g k=.pointer (some ⟨b,0,none⟩)/\w.heap[b]?=some (.cells us.toArray t (0,0))/\n+vs.length<=us.length/\RelI I0 X w0 I g ⟨s.t,s.o.set k (.box r)⟩ a (w.setRow b (us.take n++vs++us.drop (n+vs.length)).toArray):=by
 obtain⟨b,us,t,hg,hb,hus,h1s,hI,hM⟩:=h.obj k _ hk;obtain⟨er,hl⟩:=U7 hr;have hnl:n+vs.length<=us.length:=by rw[hv.1,hus.1];exact hl
 refine⟨b,us++t.2,t.1,hg,hb,by rw[List.length_append];omega,?_⟩;rw[List.take_append_of_le_length (by omega),List.drop_append_of_le_length hnl,<-List.append_assoc];have hblk:gbl (g k) b:=by rw[hg];rfl
 have hlk:J1 s k:=⟨_,hk,by simp⟩
 have hkp:A1 I w (w.setRow b (us.take n++vs++us.drop (n+vs.length)++t.2).toArray):=λb' h' hi i _=>by
  refine cell_setRow_other _ _ _ _ λe=>?_
  simp only at e;subst e;exact hI _ hi
 refine⟨h.im,λb' h' hi=>by rw[setRow_size];exact h.lt b' h' hi,?_,h.kp.trans λb k hbk i hi=>hkp b k (h.im b k hbk) i hi,by simpa using h.lo,h.st,λj o hj=>?_,λi j b' hi hj=>h.dis i j b' (Z7 hk (by simp) hi) (Z7 hk (by simp) hj),λj hj=>h.out j (by simpa using hj),h.tmp.mono (λ_ _ h=>h) hkp,h.dfr⟩
 ·refine⟨h.fr.os,h.fr.tape,h.fr.output,by rw[setRow_size];exact h.fr.size,λb' hb' hX=>?_⟩;rw[setRow_other _ _ _ _ (λe=>?_)]
  ·exact h.fr.block b' hb' hX
  ·subst e
   rcases hM with hM|hM
   ·omega
   ·exact hX hM
 ·by_cases e:k=j
  ·subst e;have hlt:k<s.o.length:=(List.getElem?_eq_some_iff.1 hk).1;simp only[List.getElem?_set_self hlt] at hj;injection hj with hj;subst hj;refine⟨b,_,t,hg,setRow_heap w b _ _ t.1 (0,0) hb,(hus.splice hv hr).mono (λ_ _ h=>h) hkp,λu hu=>?_,hI,hM⟩
   rcases List.mem_append.1 hu with hu|hu
   ·rcases List.mem_append.1 hu with hu|hu
    ·exact h1s u (List.mem_of_mem_take hu)
    ·exact h1 u hu
   ·exact h1s u (List.mem_of_mem_drop hu)
  ·simp only[List.getElem?_set_ne e] at hj;have ho:=h.obj j o hj
   by_cases hd:o=.dead
   ·subst hd;exact True.intro
   ·refine ho.keep (λ_ _ h=>h) hkp (λb' hb'=>setRow_other _ _ _ _ λe'=>?_) λ_ _ _ h=>h
    subst e';exact e (h.dis k j _ hlk ⟨o,hj,hd⟩ hblk hb')
theorem a9w {α:Type} {sz off:Nat} {ds:List α}:∀ {rows:List (List α)} {i:Nat} {row row':List α},(∀r∈rows,r.length=sz)->rows[i]?=some row->splice row off ds=some row'->(rows.set i row').flatten=rows.flatten.take (i * sz+off)++ds++rows.flatten.drop (i * sz+off+ds.length)
 | [],i,row,row',_,h,_=>by simp at h
 | r::rows,0,row,row',hl,h,hs=>by
  simp at h
  subst h;obtain⟨e,hle⟩:=U7 hs;subst e;have hr:=hl r (List.mem_cons_self ..);rw[List.set_cons_zero,List.flatten_cons,List.flatten_cons,Nat.zero_mul,Nat.zero_add,List.take_append_of_le_length (by omega),List.drop_append_of_le_length hle]
  simp
 | r::rows,i+1,row,row',hl,h,hs=>by
  have hr:=hl r (List.mem_cons_self ..);have ih:=a9w (λx hx=>hl x (List.mem_cons_of_mem _ hx)) (by simpa using h) hs;have e1:(i+1) * sz+off=r.length+(i * sz+off):=by rw[hr,Nat.succ_mul];omega
  rw[List.set_cons_succ,List.flatten_cons,List.flatten_cons,ih,e1,List.take_length_add_append,Nat.add_assoc r.length,List.drop_length_add_append]
  simp
theorem RelI.setEl (h:RelI I0 X w0 I g s a w) {k e i off:Nat} {rows:List (List D)} {row ds row':List D} {vs:List Value} (hk:s.o[k]?=some (.row false e rows)) (hr:rows[i]?=some row) (hv:A8 I w vs ds) (hs:splice row off ds=some row') :
  ∃(b n cap:Nat) (cur:Array Value),g k=.slice (some ⟨b,0,none⟩) n cap/\w.heap[b]?=some (.cells cur e (0,0))/\i * (ty e).sz+off+vs.length<=cur.size/\RelI I0 X w0 I g ⟨s.t,s.o.set k (.row false e (rows.set i row'))⟩ a (w.setRow b (cur.toList.take (i * (ty e).sz+off)++vs++cur.toList.drop (i * (ty e).sz+off+vs.length)).toArray):=by
 obtain⟨us,h1,h2,h3,h4⟩:=h.obj k _ hk;have hlt:i<rows.length:=(List.getElem?_eq_some_iff.1 hr).1;have hrl:=h2 _ (List.mem_of_getElem? hr);obtain⟨es,hle⟩:=U7 hs
 rcases h1.2 with⟨_,e2⟩|⟨b,cap,cur,hg,_,hb,hnc,hcm,hcs,htk⟩
 ·omega
 have hblk:gbl (g k) b:=by rw[hg];rfl
 have hown:=h4 b (by rw[hg];rfl);have hI:∀h',¬I b h':=λh' hi=>by have:=(hown.2.1 h' hi).1;cases this
 have hM:=hown.2.2;have hlk:J1 s k:=⟨_,hk,by simp⟩;have hsub:i * (ty e).sz+(ty e).sz<=rows.length * (ty e).sz:=by rw[<-Nat.succ_mul];exact Nat.mul_le_mul_right _ hlt
 have hcap:rows.length * (ty e).sz<=cap * (ty e).sz:=Nat.mul_le_mul_right _ hnc;have hfit:i * (ty e).sz+off+vs.length<=rows.length * (ty e).sz:=by rw[hv.1];omega
 refine⟨b,rows.length,cap,cur,hg,hb,by omega,?_⟩;generalize hp:i * (ty e).sz+off=p at *
 have hkp:A1 I w (w.setRow b (cur.toList.take p++vs++cur.toList.drop (p+vs.length)).toArray):=λb' h' hi i _=>by
  refine cell_setRow_other _ _ _ _ λe=>?_
  simp only at e;subst e;exact hI _ hi
 refine⟨h.im,λb' h' hi=>by rw[setRow_size];exact h.lt b' h' hi,?_,h.kp.trans λb k hbk i hi=>hkp b k (h.im b k hbk) i hi,by simpa using h.lo,h.st,λj o hj=>?_,λi j b' hi hj=>h.dis i j b' (Z7 hk (by simp) hi) (Z7 hk (by simp) hj),λj hj=>h.out j (by simpa using hj),h.tmp.mono (λ_ _ h=>h) hkp,h.dfr⟩
 ·refine⟨h.fr.os,h.fr.tape,h.fr.output,by rw[setRow_size];exact h.fr.size,λb' hb' hX=>?_⟩;rw[setRow_other _ _ _ _ (λe=>?_)]
  ·exact h.fr.block b' hb' hX
  ·subst e
   rcases hM with hM|hM
   ·omega
   ·exact hX hM
 ·by_cases e':k=j
  ·subst e';have hlt:k<s.o.length:=(List.getElem?_eq_some_iff.1 hk).1;simp only[List.getElem?_set_self hlt] at hj;injection hj with hj;subst hj;have hcl:cur.toList.length=cap * (ty e).sz:=by simpa using hcs
   refine⟨us.take p++vs++us.drop (p+vs.length),⟨?_,.inr ⟨b,cap,_,by rw[hg,List.length_set],Nat.zero_le _,setRow_heap w b _ _ e (0,0) hb,by rw[List.length_set];exact hnc,hcm,?_,?_⟩⟩,λr hrm=>?_,?_,λb' hb'=>?_⟩
   ·rw[List.length_set,List.length_append,List.length_append,List.length_take,List.length_drop,h1.1];omega
   ·simp only[List.size_toArray,List.length_append,List.length_take,List.length_drop,hcl];omega
   ·have hA:(cur.toList.take p++vs).length=p+vs.length:=by rw[List.length_append,List.length_take,hcl];omega
    rw[List.length_set,List.take_append,List.take_of_length_le (by rw[hA];omega),hA,<-htk,List.take_take,Nat.min_eq_left (by omega),List.drop_take]
   ·rcases List.mem_or_eq_of_mem_set hrm with hrm|rfl
    ·exact h2 r hrm
    ·rw[es,List.length_append,List.length_append,List.length_take,List.length_drop];omega
   ·rw[a9w h2 hr hs,hp];rw[<-hv.1];exact(((h3.take p).append hv).append (h3.drop _)).mono (λ_ _ h=>h) hkp
   ·rw[hg] at hb';have hb':=Option.some.inj hb';subst hb';exact⟨λhz=>(by cases hz),λh' hi=>absurd hi (hI h'),hM⟩
  ·simp only[List.getElem?_set_ne e'] at hj;have ho:=h.obj j o hj
   by_cases hd:o=.dead
   ·subst hd;exact True.intro
   ·refine ho.keep (λ_ _ h=>h) hkp (λb' hb'=>setRow_other _ _ _ _ λe''=>?_) λ_ _ _ h=>h
    subst e'';exact e' (h.dis k j _ hlk ⟨o,hj,hd⟩ hblk hb')
theorem N6 {g':Nat->Value} {k:Nat} (hg:∀j,j≠k->g' j=g j) (hk:Q0 (g k)=true->g' k=g k) {v:Value} {x:V} (h:AtV I w g v x):AtV I w g' v (a5y k x):=by
 have hp:∀j,Q0 (g j)=true->g' j=g j:=λj e=>by
  by_cases hj:j=k
  ·subst hj;exact hk e
  ·exact hg j hj
 cases h with
 | d h=>exact .d h
 | ag us cs hl h=>exact .jk _
 | tu us cs hl h=>exact .jk _
 | em=>exact .em
 | own j A n cap h =>
  show AtV I w g' _ (match K7 j k with|true=>.jk|false=>.own j);cases e:K7 j k
  ·exact .own j A n cap ((congrArg gv (hg j (a1l.1 e))).trans h)
  ·exact .jk _
 | ptr j off b h=>exact .ptr j off b ((hp j (by rw[h];rfl)).trans h)
 | mp j b h=>exact .mp j b ((hp j (by rw[h];rfl)).trans h)
 | cl f us ks hl h =>
  exact .cl f us ks hl λi u j hu hj=>by
   obtain⟨h1,b,h2⟩:=h i u j hu hj;have h3:=hp j (by rw[h2];rfl);exact⟨h1.trans h3.symm,b,h3.trans h2⟩
 | el j i sz off b n cap h =>
  show AtV I w g' _ (match K7 j k with|true=>.jk|false=>.el j i sz off);cases e:K7 j k
  ·exact .el j i sz off b n cap ((hg j (a1l.1 e)).trans h)
  ·exact .jk _
 | ro b o off us cs hi hc hd=>exact .ro b o off us cs hi hc hd
 | bs j n b cap h hn=>exact .bs j n b cap ((hp j (by rw[h];rfl)).trans h) hn
 | jk v=>exact .jk v
theorem a0Q {g':Nat->Value} {k:Nat} (hg:∀j,j≠k->g' j=g j) (hk:Q0 (g k)=true->g' k=g k):∀ {cs:List V} {us:List Value},n6 I w g us cs->n6 I w g' us (A0 k cs)
 | [],us,h=>by rw[h.unnil];exact .nil I w g'
 | c::cs,us,h=>by
  obtain⟨u,us',rfl,h1,h2⟩:=h.uncons;exact .cons (N6 hg hk h1) (a0Q hg hk h2)
theorem b4u {g':Nat->Value} {k:Nat} (hg:∀j,j≠k->g' j=g j) (hk:Q0 (g k)=true->g' k=g k) {v:Value} {x:V} (h:AtV I w g v x):AtV I w g' v (C8 k x):=by
 cases x with
 | ag cs =>
  obtain⟨us,rfl,h2⟩:=h.unag;exact a0F (a0Q hg hk h2)
 | tu cs =>
  cases cs with
  | nil =>
   obtain⟨us,rfl,h2⟩:=h.untu;rw[h2.unnil];exact a0G (.nil I w g')
  | cons c cs=>exact .jk _
 | d x=>exact N6 hg hk h
 | em=>exact N6 hg hk h
 | own j=>exact N6 hg hk h
 | ptr j off=>exact N6 hg hk h
 | cl f ks=>exact N6 hg hk h
 | el j i sz off=>exact N6 hg hk h
 | ro cs off=>exact N6 hg hk h
 | mp k=>exact N6 hg hk h
 | bs k n=>exact N6 hg hk h
 | jk=>exact .jk _
theorem a1N {g':Nat->Value} {k:Nat} (hg:∀j,j≠k->g' j=g j) (hk:Q0 (g k)=true->g' k=g k):∀ {cs:List V} {us:List Value},n6 I w g us cs->n6 I w g' us (E5 k cs)
 | [],us,h=>by rw[h.unnil];exact .nil I w g'
 | c::cs,us,h=>by
  obtain⟨u,us',rfl,h1,h2⟩:=h.uncons;exact .cons (b4u hg hk h1) (a1N hg hk h2)
theorem Q5 (k:Nat):∀(l:List O) (j:Nat) (o:O),(A6 k l)[j]?=some o->∃o',l[j]?=some o'/\(o≠.dead->o'≠.dead)/\((∃cs,o'=.box cs/\o=.box (A0 k cs))\/(∃ks,o'=.kl ks/\o=.kl (k::ks))\/(o=o'/\(∀cs,o≠.box cs)/\∀ks,o≠.kl ks))
 | [],j,o,h=>by simp[A6] at h
 | x::l,0,o,h=>by
  cases x with
  | box cs=>simp[A6] at h;exact⟨_,rfl,λ_=>by simp,.inl ⟨cs,rfl,h.symm⟩⟩
  | kl ks=>simp[A6] at h;exact⟨_,rfl,λ_=>by simp,.inr (.inl ⟨ks,rfl,h.symm⟩)⟩
  | row z e rows=>simp[A6] at h;subst h;exact⟨_,rfl,λh=>h,.inr (.inr ⟨rfl,by simp,by simp⟩)⟩
  | mp kt es=>simp[A6] at h;subst h;exact⟨_,rfl,λh=>h,.inr (.inr ⟨rfl,by simp,by simp⟩)⟩
  | it P=>simp[A6] at h;subst h;exact⟨_,rfl,λh=>h,.inr (.inr ⟨rfl,by simp,by simp⟩)⟩
  | ob T vs=>simp[A6] at h;subst h;exact⟨_,rfl,λh=>h,.inr (.inr ⟨rfl,by simp,by simp⟩)⟩
  | dead=>simp[A6] at h;subst h;exact⟨_,rfl,λh=>h,.inr (.inr ⟨rfl,by simp,by simp⟩)⟩
 | x::l,j+1,o,h=>by
  have h':(A6 k l)[j]?=some o:=by cases x <;> simpa [A6] using h
  obtain⟨o',h1,h2⟩:=Q5 k l j o h';exact⟨o',by simpa using h1,h2⟩
theorem G8 (k:Nat):∀l:List O,(A6 k l).length=l.length
 | []=>rfl
 | x::l=>by cases x <;> simp[A6,G8 k l]
theorem a56 (k:Nat) (z:Bool) (e:Nat) (r:List (List D)):∀l:List O,A6 k (y8 l (.row z e r))=y8 (A6 k l) (.row z e r)
 | []=>rfl
 | x::l=>by cases x <;> simp[y8,A6,a56 k z e r l]
theorem RelI.kill (h:RelI I0 X w0 I g s a w) (k:Nat):RelI I0 X w0 I g ⟨E5 k s.t,A6 k s.o⟩ a w:=by
 refine⟨h.im,h.lt,h.fr,h.kp,by simpa [G8] using h.lo,h.st,λj o hj=>?_,λi j b hi hj=>?_,λj hj=>?_,a1N (λ_ _=>rfl) (λ_=>rfl) h.tmp,h.dfr⟩
 ·obtain⟨o',ho',hdd,hsh⟩:=Q5 k s.o j o hj;have hob:=h.obj j o' ho'
  rcases hsh with⟨cs,rfl,rfl⟩|⟨ks,rfl,rfl⟩|⟨rfl,hnb,hnf⟩
  ·obtain⟨b,us,t,h1,h2,h3,h4⟩:=hob;exact⟨b,us,t,h1,h2,a0Q (λ_ _=>rfl) (λ_=>rfl) h3,h4⟩
  ·obtain⟨us,h1,h2,h3⟩:=hob;exact⟨us,h1,h2,λi u hu=>(h3 i u hu).imp id (Or.imp id (List.mem_cons_of_mem _))⟩
  ·exact hob
 ·have live':∀j,J1 ⟨E5 k s.t,A6 k s.o⟩ j->J1 s j:=λj hj=>by
   obtain⟨o,ho,hd⟩:=hj;obtain⟨o',ho',hdd,_⟩:=Q5 k s.o j o ho;exact⟨o',ho',hdd hd⟩
  exact h.dis i j b (live' i hi) (live' j hj)
 ·have hj:(A6 k s.o).length<=j:=hj;rw[G8] at hj;exact h.out j hj
theorem RelI.freshly {m:Bool} {z:Bool} {e:Nat} {r:List (List D)} (h:RelI I0 X w0 I g (s.obj (.row z e r)) a w):RelI I0 X w0 I g (s.fresh m (.row z e r)) a w:=by
 cases m with
 | true=>exact h
 | false =>
  have h1:=h.kill (o7 s.o);have e1:A6 (o7 s.o) (s.obj (.row z e r)).o=y8 (A6 (o7 s.o) s.o) (.row z e r):=a56 ..;rw[e1] at h1;exact h1
end
end
section
theorem a0R {P:Program} (w:World) (base:Nat) (t ty e:TypeId) (i:TypeInfo) (z:Value) (size bytes:Nat) (ht:P.underlying t=some (.slice e)) (hi:P.info? e=some i) (hz:i.zero=some z)
  (hsize:i.size=size) (hby:i.bytes=bytes) (hzs:z.cells.size=size) (hpos:0<size) (v:Value) (n:Nat) (xs:List Value) (hown:w.ownsRow base e size v n xs)
  (A:Option Addr) (m c:Nat) (ys:List Value) (hs:b8d w A m size ys) (h63:n+m<=maxLen) (hbytes:(n+m) * bytes<=140737488355328) (hbase:base<=w.heap.size) :
  ∃v' w',(Builtin.append_ #[t,t] ty #[v,.slice A m c]).run P w=.ok v' w'/\w'.ownsRow base e size v' (n+m) (xs++ys) /\
   ((∃g,v.ownBlock=some g/\v'.ownBlock=some g/\w.grownBy w' (some g))\/(Below w.heap.size w w'/\(v'.ownBlock=none\/v'.ownBlock=some w.heap.size))):=by
 obtain⟨hl,hn,hc,h1⟩:=hs
 rcases A with _|ad
 ·have hm:=hn rfl;subst hm;have hys:ys=[]:=List.eq_nil_of_length_eq_zero (by rw[hl,Nat.zero_mul]);subst hys;refine⟨v,w,?_,by simpa using hown,?_⟩
  ·rcases hown.2 with⟨rfl,rfl⟩|⟨g,cap,cur,rfl,_,_,hnc,_⟩
   ·simp[Builtin.append_,run_underlying ht,sizeOf,typeInfo,hi,Builtin.lenOf,Builtin.firstCells]
   ·simp[Builtin.append_,run_underlying ht,sizeOf,typeInfo,hi,Builtin.lenOf,Builtin.firstCells,hnc,storeCells]
  ·cases hb:v.ownBlock with
   | none=>exact .inr ⟨Below.refl _ _,.inl rfl⟩
   | some g=>exact .inl ⟨g,rfl,rfl,World.grownBy.refl w _⟩
 ·obtain⟨v',w',hrun,h2,h3,_,hat⟩:=run_append_own_at (P:=P) w base t ty e i z size bytes ht hi hz hsize hby hzs hpos v n xs hown ad m c ys hl (hc ad rfl) h1 h63 hbytes hbase;refine⟨v',w',hrun,h2,?_⟩;subst hsize
  subst hby
  rcases hown.2 with⟨rfl,rfl⟩|⟨g,cap,cur,rfl,hbg,hg,hnc,hcm,hcs,htake⟩
  ·exact .inr ⟨⟨h3.os,h3.tape,h3.output,h3.size,λk hk=>h3.block k hk (by simp[Value.ownBlock])⟩,hat⟩
  ·by_cases hroom:n+m<=cap
   ·have hfit:n * i.size+ys.length<=cur.size:=by rw[hl,hcs,<-Nat.add_mul];exact Nat.mul_le_mul_right _ hroom
    have hr:=run_append_room (P:=P) w t ty e i ht hi g n cap cur hg ad m c ys hl (hc ad rfl) h1 hroom hfit;rw[hrun] at hr;injection hr with e1 e2;subst e1;exact .inl ⟨g,rfl,rfl,h3⟩
   ·have holds:∀j u,xs[j]?=some u->w.cell? ((⟨g,0,none⟩:Addr).add j)=some u:=hown.cells (g:=g) rfl;have hr:=run_append_grow (P:=P) w t ty e i z ht hi hz ⟨g,0,none⟩ n cap xs hown.1 holds ad m c ys hl (hc ad rfl) (by omega) (by unfold maxLen at h63;omega) (growslice_fits (by omega) hbytes);rw[hrun] at hr;injection hr with e1 e2;subst e1;subst e2;exact .inr ⟨((Below.refl _ _).drew).alloc (Nat.le_refl _) _,.inr rfl⟩
theorem a3r {w w':World} {b:Nat} (h:w'.heap[b]?=w.heap[b]?) (o:Nat):w'.cell? ⟨b,o,none⟩=w.cell? ⟨b,o,none⟩:=by simp only[World.cell?,h]
section
variable {I0:Nat->Nat->Prop} {X:Nat->Prop} {w0:W0} {I:Nat->Nat->Prop} {g:Nat->Value} {s:S} {a:Act} {w:World}
theorem b3j {w w':World} {base e sz n m:Nat} {v v':Value} {us vs:List Value} (h:w.ownsRow base e sz v n us) (h':w'.ownsRow base e sz v' (n+m) (us++vs)) {b:Nat} (hb:v.ownBlock=some b) (hb':v'.ownBlock=some b) {i:Nat} (hi:i<n * sz) :
  w'.cell? ⟨b,i,none⟩=w.cell? ⟨b,i,none⟩:=by
 have e1:∀ {w:World} {v:Value} {n:Nat} {us:List Value},w.ownsRow base e sz v n us->v.ownBlock=some b->∀i,i<n * sz->w.cell? ⟨b,i,none⟩=us[i]?:=λ{w v n us} h hb i hi=>by
  rcases h.2 with⟨rfl,_⟩|⟨g,cap,cur,rfl,_⟩
  ·cases hb
  ·injection hb with hb;subst hb;exact World.ownsRow.cellAt h i hi
 rw[e1 h hb i hi,e1 h' hb' i (by rw[Nat.add_mul];omega),List.getElem?_append_left (by rw[h.1];exact hi)]
theorem a0w {w:World} {base e sz n:Nat} {v:Value} {us:List Value} (h:w.ownsRow base e sz v n us) {b:Nat}:gbl v b↔v.ownBlock=some b:=by
 rcases h.2 with⟨rfl,_⟩|⟨g,cap,cur,rfl,_⟩
 ·exact⟨λh=>h.elim,λh=>by cases h⟩
 ·exact⟨λh=>congrArg some h,λh=>Option.some.inj h⟩
theorem a1O {w:World} {base e sz n:Nat} {v:Value} {us:List Value} (h:w.ownsRow base e sz v n us):gv v=v:=by
 rcases h.2 with⟨rfl,_⟩|⟨g,cap,cur,rfl,_⟩ <;> rfl
theorem L9 {w:World} {base e sz n:Nat} {v:Value} {us:List Value} (h:w.ownsRow base e sz v n us):∃A cap,v=.slice A n cap:=by
 rcases h.2 with⟨rfl,h0⟩|⟨g,cap,cur,rfl,_⟩
 ·subst h0;exact⟨_,_,rfl⟩
 ·exact⟨_,_,rfl⟩
theorem RelI.appended (h:RelI I0 X w0 I g s a w) {k e:Nat} {z:Bool} {xs ys:List (List D)} (hk:s.o[k]?=some (.row z e xs)) {us vs:List Value} (hown:w.ownsRow 0 e (ty e).sz (g k) xs.length us) (hys:∀r∈ys,r.length=(ty e).sz) (hvs:A8 I w vs ys.flatten)
  {v':Value} {w':World} (hown':w'.ownsRow 0 e (ty e).sz v' (xs.length+ys.length) (us++vs)) (hsp:(∃b,(g k).ownBlock=some b/\v'.ownBlock=some b/\w.grownBy w' (some b))\/(Below w.heap.size w w'/\(v'.ownBlock=none\/v'.ownBlock=some w.heap.size))) :
  ∃I' g',g' k=v'/\RelI I0 X w0 I' g' ⟨E5 k s.t,(A6 k s.o).set k (.row z e (xs++ys))⟩ a w':=by
 have hok:=h.obj k _ hk;obtain⟨us2,ho2,hr2,hd2,hb2⟩:=hok
 have hus:us2=us:=by
  have h1:=ho2.1;have h2:=hown.1
  rcases ho2.2 with⟨e1,e2⟩|⟨g1,cap,cur,e1,_,hh,_,_,_,ht⟩
  ·rw[e2,Nat.zero_mul] at h1 h2;rw[List.eq_nil_of_length_eq_zero h1,List.eq_nil_of_length_eq_zero h2]
  ·rcases hown.2 with⟨e3,e4⟩|⟨g2,cap2,cur2,e3,_,hh2,_,_,_,ht2⟩
   ·rw[e1] at e3;cases e3
   ·rw[e1] at e3;injection e3 with e3 _ _;injection e3 with e3;injection e3 with e3;subst e3;rw[hh] at hh2;injection hh2 with hh2;injection hh2 with hh2;subst hh2;rw[<-ht,<-ht2]
 subst hus;have hgk:∀ {b},gbl (g k) b↔(g k).ownBlock=some b:=a0w hown;have hnp:Q0 (g k)=true->upd g k v' k=g k:=λe=>by obtain⟨A,cap,e2⟩:=L9 hown;rw[e2] at e;cases e
 have hlk:J1 s k:=⟨_,hk,by simp⟩;have hlt:k<s.o.length:=(List.getElem?_eq_some_iff.1 hk).1;have hI':∀b k',I b k'->(λb k'=>I b k'\/(z=true/\v'.ownBlock=some b/\k'<=(xs.length+ys.length) * (ty e).sz)) b k':=λb k' h=>.inl h
 have hlen:xs.length * (ty e).sz<=(xs.length+ys.length) * (ty e).sz:=Nat.mul_le_mul_right _ (by omega)
 have hsz:w.heap.size<=w'.heap.size:=by
  rcases hsp with⟨_,_,_,h3⟩|⟨h3,_⟩
  ·exact h3.size
  ·exact h3.size
 have hother:∀b,b<w.heap.size->(g k).ownBlock≠some b->w'.heap[b]?=w.heap[b]?:=λb hb hne=>by
  rcases hsp with⟨c,h1,_,h3⟩|⟨h3,_⟩
  ·exact h3.block b hb (λe=>hne (by rw[h1,<-e]))
  ·exact h3.block b hb
 have hkp:A1 I w w':=λb k' hbk i hi=>by
  have hb:=(h.lt b k' hbk).1
  by_cases hne:(g k).ownBlock=some b
  ·rcases hsp with⟨c,h1,h2,h3⟩|⟨h3,_⟩
   ·rw[h1] at hne;injection hne with hne;subst hne;exact b3j hown hown' h1 h2 (Nat.lt_of_lt_of_le hi ((hb2 c h1).2.1 _ hbk).2)
   ·exact a3r (h3.block b hb) i
  ·exact a3r (hother b hb hne) i
 have hnew:∀b,v'.ownBlock=some b->(g k).ownBlock=some b\/b=w.heap.size:=λb hb=>by
  rcases hsp with⟨c,h1,h2,_⟩|⟨_,h2|h2⟩
  ·rw[h2] at hb;injection hb with hb;subst hb;exact .inl h1
  ·rw[h2] at hb;cases hb
  ·rw[h2] at hb;injection hb with hb;exact .inr hb.symm
 have hlt':∀b,v'.ownBlock=some b->b<w'.heap.size:=λb hb=>(hown'.lt b hb).2
 have hmine:∀b,v'.ownBlock=some b->a1k X w0 b:=λb hb=>by
  rcases hnew b hb with h1|rfl
  ·exact(hb2 b h1).2.2
  ·exact .inl h.fr.size
 have hg':∀j,j≠k->upd g k v' j=g j:=λj hj=>A2 hj
 refine⟨λb k'=>I b k'\/(z=true/\v'.ownBlock=some b/\k'<=(xs.length+ys.length) * (ty e).sz),upd g k v',n7 ..,?_⟩;refine⟨λb k' hb=>.inl (h.im b k' hb),λb k' hb=>?_,?_,h.kp.trans λb k hbk i hi=>hkp b k (h.im b k hbk) i hi,by simpa [G8] using h.lo,λj hj hr=>?_,λj o hj=>?_,λi j b hi hj hbi hbj=>?_,λj hj=>?_,?_,h.dfr⟩
 ·rcases hb with hb|⟨_,hb,_⟩
  ·exact⟨Nat.lt_of_lt_of_le (h.lt b k' hb).1 hsz,(h.lt b k' hb).2⟩
  ·refine⟨hlt' b hb,λhlt0=>?_⟩
   rcases hmine b hb with h1|h1
   ·omega
   ·exact .inr h1
 ·have hf:=h.fr
  have hos:w'.os=w.os/\w'.tape=w.tape/\w'.output=w.output:=by
   rcases hsp with⟨_,_,_,h3⟩|⟨h3,_⟩
   ·exact⟨h3.os,h3.tape,h3.output⟩
   ·exact⟨h3.os,h3.tape,h3.output⟩
  refine⟨hos.1.trans hf.os,hos.2.1.trans hf.tape,hos.2.2.trans hf.output,Nat.le_trans hf.size hsz,λb hb hX=>?_⟩;rw[hother b (Nat.lt_of_lt_of_le hb hf.size) λe=>?_]
  ·exact hf.block b hb hX
  ·rcases (hb2 b e).2.2 with h1|h1
   ·omega
   ·exact hX h1
 ·have e:=h.st j hj hr;refine(hg' j λej=>?_).trans e;subst ej;rw[<-e] at hr
  rcases hown.2 with⟨e1,_⟩|⟨_,_,_,e1,_⟩ <;> rw[e1] at hr <;> cases hr
 ·by_cases hjk:k=j
  ·subst hjk;simp only[List.getElem?_set_self (show k<(A6 k s.o).length by rw[G8];exact hlt)] at hj;injection hj with hj;subst hj;refine⟨us2++vs,by rw[n7,List.length_append];exact hown',λr hr=>?_,?_,λb hb=>?_⟩
   ·rcases List.mem_append.1 hr with hr|hr
    ·exact hr2 r hr
    ·exact hys r hr
   ·rw[List.flatten_append];exact((hd2.append hvs)).mono hI' hkp
   ·rw[n7] at hb;rw[List.length_append];refine⟨λhz=>.inr ⟨hz,hb,Nat.le_refl _⟩,λk' hk'=>?_,hmine b hb⟩
    rcases hk' with hk'|⟨hz,_,hk'⟩
    ·rcases hnew b hb with h1|rfl
     ·have h2:=(hb2 b h1).2.1 _ hk';exact⟨h2.1,Nat.le_trans h2.2 hlen⟩
     ·exact absurd (h.lt _ _ hk').1 (by omega)
    ·exact⟨hz,hk'⟩
  ·simp only[List.getElem?_set_ne hjk] at hj;obtain⟨o',ho',hdd,hsh⟩:=Q5 k s.o j o hj
   by_cases hd:o=.dead
   ·subst hd;exact True.intro
   have hob:=h.obj j o' ho';have hd':=hdd hd;have hne:∀b,gbl (g j) b->(g k).ownBlock≠some b:=λb hb e=>hjk (h.dis k j b hlk ⟨o',ho',hd'⟩ (hgk.2 e) hb)
   have hkeep:U4 X w0 (λb k'=>I b k'\/(z=true/\v'.ownBlock=some b/\k'<=(xs.length+ys.length) * (ty e).sz)) w' g j o':=by
    refine hob.keep hI' hkp (λb hb=>hother b (hob.blk hd' b hb).1 (hne b hb)) λb hb k' hk'=>?_
    rcases hk' with hk'|⟨_,hk',_⟩
    ·exact hk'
    ·rcases hnew b hk' with h1|rfl
     ·exact absurd h1 (hne b hb)
     ·exact absurd (hob.blk hd' _ hb).1 (by omega)
   rcases hsh with⟨cs,rfl,rfl⟩|⟨ks,rfl,rfl⟩|⟨rfl,hnb,hnf⟩
   ·obtain⟨b,us,t,h1,h2,h3,h4⟩:=hkeep;exact⟨b,us,t,by rw[A2 (Ne.symm hjk)];exact h1,h2,a0Q hg' hnp h3,h4⟩
   ·obtain⟨us,h1,h2,h3⟩:=hkeep;refine⟨us,by rw[A2 (Ne.symm hjk)];exact h1,h2,λi u hu=>?_⟩
    by_cases e:i=k
    ·exact .inr (.inr (by rw[e];exact List.mem_cons_self ..))
    ·rcases h3 i u hu with h4|h4|h4
     ·exact .inl h4
     ·exact .inr (.inl (by rw[A2 e];exact h4))
     ·exact .inr (.inr (List.mem_cons_of_mem _ h4))
   ·cases o with
    | dead=>exact True.intro
    | box cs=>exact absurd rfl (hnb cs)
    | kl ks=>exact absurd rfl (hnf ks)
    | mp kt es =>
     obtain⟨b,l,c,h1,h2⟩:=hkeep;exact⟨b,l,c,by rw[A2 (Ne.symm hjk)];exact h1,h2⟩
    | ob T vs =>
     obtain⟨b,h1,h2⟩:=hkeep;exact⟨b,by rw[A2 (Ne.symm hjk)];exact h1,h2⟩
    | it P =>
     obtain⟨A,n,cap,F,h1,h2⟩:=hkeep;exact⟨A,n,cap,F,by rw[A2 (Ne.symm hjk)];exact h1,h2⟩
    | row z2 e2 rows =>
     obtain⟨us,h1,h2,h3,h4⟩:=hkeep;exact⟨us,by rw[A2 (Ne.symm hjk)];exact h1,h2,h3,by rw[A2 (Ne.symm hjk)];exact h4⟩
 ·have live':∀j,J1 ⟨E5 k s.t,(A6 k s.o).set k (.row z e (xs++ys))⟩ j->J1 s j:=λj hj=>by
   obtain⟨o,ho,hd⟩:=hj
   by_cases hjk:k=j
   ·subst hjk;exact hlk
   ·simp only[List.getElem?_set_ne hjk] at ho;obtain⟨o',ho',hdd,_⟩:=Q5 k s.o j o ho;exact⟨o',ho',hdd hd⟩
  have hi':=live' i hi;have hj':=live' j hj;have hv'b:∀ {b},gbl v' b↔v'.ownBlock=some b:=a0w hown'
  have cross:∀j,j≠k->J1 s j->gbl (g j) b->¬gbl v' b:=λj hjk hl hb e=>by
   have e:=hv'b.1 e
   rcases hnew b e with h1|rfl
   ·exact hjk (h.dis j k b hl hlk hb (hgk.2 h1))
   ·have:=h.blk_lt hl hb;omega
  by_cases hik:i=k <;> by_cases hjk:j=k
  ·rw[hik,hjk]
  ·subst hik;rw[n7] at hbi;rw[A2 hjk] at hbj;exact absurd hbi (cross j hjk hj' hbj)
  ·subst hjk;rw[n7] at hbj;rw[A2 hik] at hbi;exact absurd hbj (cross i hik hi' hbi)
  ·rw[A2 hik] at hbi;rw[A2 hjk] at hbj;exact h.dis i j b hi' hj' hbi hbj
 ·simp only[List.length_set,G8] at hj;rw[A2 (by omega)];exact h.out j hj
 ·exact(a1N hg' hnp h.tmp).mono hI' hkp
end
end
section
theorem a1m {t:Nat} (h:j6 t=true):∃x z,Tryz.prog.info? t=some x/\x.size=(ty t).sz/\x.zero=some z/\z.cells=(ty t).zero.toArray/\(ty t).zero.length=(ty t).sz/\x.bytes<=1024:=by
 have hk:=a29 t h;have hi:=hk.info;have hb:=hk.bytes;cases hx:Tryz.prog.info? t with
 | none=>rw[hx] at hi;cases hi
 | some x =>
  rw[hx] at hi hb;simp only[Option.map_some,Option.some.injEq,Prod.mk.injEq] at hi;cases hz:x.zero with
  | none=>rw[hz] at hi;simp at hi
  | some z =>
   rw[hz] at hi;simp only[Option.map_some,Option.some.injEq] at hi;refine⟨x,z,rfl,hi.1,hz,hi.2,hk.len,?_⟩
   simpa using hb
theorem L3 {t:Nat} (h:j6 t=true) (w:World):(sizeOf t).run Tryz.prog w=.ok (ty t).sz w:=by
 obtain⟨x,z,h1,h2,_⟩:=a1m h
 simp[sizeOf,typeInfo,h1,h2]
theorem a5j {t:Nat} (h:j6 t=true) (w:World):∃z,(zeroValue t).run Tryz.prog w=.ok z w/\z.cells=(ty t).zero.toArray:=by
 obtain⟨x,z,h1,_,h3,h4,_⟩:=a1m h;exact⟨z,by simp[zeroValue,typeInfo,h1,h3],h4⟩
theorem a8o {t:Nat} (h:j6 t=true) (w:World):(isAgg t).run Tryz.prog w=.ok (ty t).agg w:=by
 have hk:=(a29 t h).agg;cases hu:Tryz.prog.underlying t with
 | none=>rw[hu] at hk;cases hk
 | some d =>
  rw[hu] at hk;have:=run_underlying hu w;cases d <;> simp only[a9m,Option.some.injEq] at hk <;> simp[isAgg,this,<-hk]
theorem H7 {t e:Nat} (h:j6 t=true) (he:(ty t).elem=some e):Tryz.prog.underlying t=some (.slice e):=by
 have hk:=a29 t h;have h1:=hk.elem;have h2:=hk.under;unfold a0q at h2;cases hkind:(ty t).kind <;> rw[hkind] at h1 h2 <;> simp only[he,Option.isNone_some] at h1 h2 <;> first|exact h2.1|exact absurd h1 (by decide)
theorem a2V {t:Nat} (h:j6 t=true) (he:(ty t).kind=.str):Tryz.prog.underlying t=some .string:=by
 have h2:=(a29 t h).under;unfold a0q at h2;rw[he] at h2;exact h2
theorem a57 {t:Nat} {k:IntKind} (h:j6 t=true) (he:(ty t).kind=.int k):Tryz.prog.underlying t=some (.int k):=by
 have h2:=(a29 t h).under;unfold a0q at h2;rw[he] at h2;exact h2
theorem b0N {t:Nat} (h:j6 t=true) (he:(ty t).kind=.ptr):∃e,Tryz.prog.underlying t=some (.pointer e):=by
 have h2:=(a29 t h).under;unfold a0q at h2;rw[he] at h2;obtain⟨h3,h4⟩:=h2;cases hv:(ty t).val with
 | none=>rw[hv] at h4;cases h4
 | some e=>rw[hv] at h3;exact⟨e,h3⟩
theorem b2a {t:Nat} (h:j6 t=true) (he:(ty t).kind=.bool):Tryz.prog.underlying t=some .bool:=by
 have h2:=(a29 t h).under;unfold a0q at h2;rw[he] at h2;exact h2
theorem a58 {t e:Nat} (h:j6 t=true) (he:(ty t).kind=.array) (hv:(ty t).val=some e):Tryz.prog.underlying t=some (.array (ty t).alen e):=by
 have h2:=(a29 t h).under;unfold a0q at h2;rw[he] at h2;obtain⟨h3,h4⟩:=h2;rw[hv] at h3;exact h3
theorem b4v {t k e:Nat} (h:j6 t=true) (he:(ty t).kind=.map) (hk:(ty t).key=some k) (hv:(ty t).val=some e):Tryz.prog.underlying t=some (.map k e):=by
 have h2:=(a29 t h).under;unfold a0q at h2;rw[he] at h2;obtain⟨h3,h4⟩:=h2;rw[hk,hv] at h3;exact h3
theorem a4h {t:Nat} (h:j6 t=true) (he:(ty t).kind=.struct):∃fs,Tryz.prog.underlying t=some (.struct fs)/\fs.toList.map (λf=>(f.offset,(Tryz.prog.info? f.type).map (·.size)))=(ty t).flds.map (λx=>(x.1,some x.2))/\fs.toList.map (·.type)=(ty t).fty:=by
 have h2:=(a29 t h).under;unfold a0q at h2;rw[he] at h2;simp only at h2;cases hu:Tryz.prog.underlying t with
 | none=>rw[hu] at h2;cases h2
 | some d =>
  rw[hu] at h2;cases d <;> first|cases h2|skip
  rename_i fs;simp only[b0G,Option.some.injEq,Prod.mk.injEq] at h2;exact⟨fs,rfl,h2.1,h2.2⟩
theorem b4w {t i off sz:Nat} (h:j6 t=true) (hf:(ty t).flds[i]?=some (off,sz)):∃fs f,Tryz.prog.underlying t=some (.struct fs)/\fs[i]?=some f/\f.offset=off/\(Tryz.prog.info? f.type).map (·.size)=some sz/\(ty t).fty[i]?=some f.type/\(ty t).kind=.struct:=by
 have hk:=a29 t h
 have hst:(ty t).kind=.struct:=by
  have h1:=hk.flds;cases hkind:(ty t).kind <;> rw[hkind] at h1 <;> first|rfl|skip
  all_goals
   simp only[List.isEmpty_iff] at h1;rw[h1] at hf
   simp at hf
 obtain⟨fs,h1,h2,h3⟩:=a4h h hst;have h4:=congrArg (·[i]?) h2;simp only[List.getElem?_map,hf,Option.map_some] at h4;cases hfi:fs.toList[i]? with
 | none=>rw[hfi] at h4;cases h4
 | some f =>
  rw[hfi] at h4;simp only[Option.map_some,Option.some.injEq,Prod.mk.injEq] at h4;refine⟨fs,f,h1,by rw[<-Array.getElem?_toList];exact hfi,h4.1,h4.2,?_,hst⟩;rw[<-h3,List.getElem?_map,hfi];rfl
theorem a0S {α:Type} {n:Nat} {l:List α} {x:α} (h:H6 1 (K9 n l)=some [x]):l[n]?=some x:=by
 rw[Z5] at h;obtain⟨h1,_⟩:=Z6 h;have:=congrArg (·[0]?) h1;simp only[List.getElem?_cons_zero,List.getElem?_take,Nat.zero_lt_one,if_true,List.getElem?_drop,Nat.add_zero] at this;exact this.symm
section
variable {I:Nat->Nat->Prop} {g:Nat->Value} {w:World}
theorem a8p {b:Bool} {l:List V} {x:V} {us:List Value} (hu:n6 I w g us l) (hp:a0O b l=some x):AtV I w g (if b=true then .agg us.toArray else us.getD 0 undef) x/\(b=false->us.length=1):=by
 cases b with
 | true =>
  rw[a0O] at hp;injection hp with hp;subst hp;exact⟨a0F hu,by simp⟩
 | false =>
  match l,hp with
  | [y],hp =>
   rw[a0O] at hp;injection hp with hp;subst hp;obtain⟨u,us',rfl,h1,h2⟩:=hu.uncons;rw[h2.unnil];exact⟨h1,λ_=>rfl⟩
theorem a8q {t b p:Nat} (ht:j6 t=true) {us:List Value} {l:List V} {x:V} (hl:us.length=(ty t).sz) (hc:∀j u,us[j]?=some u->w.cell? ⟨b,p+j,none⟩=some u) (hu:n6 I w g us l) (hp:a0O (ty t).agg l=some x) :
  ∃v,(Instr.loadAt t (.pointer (some ⟨b,p,none⟩))).run Tryz.prog w=.ok v w/\AtV I w g v x:=by
 obtain⟨hx,h1⟩:=a8p hu hp;refine⟨_,?_,hx⟩;simp only[Instr.loadAt,Instr.sureAddr,loadVar,Sem.run_bind,Sem.run_pure,Result.andThen_ok,a8o ht];cases ha:(ty t).agg with
 | true =>
  simp only[if_true,Sem.run_bind,L3 ht,Result.andThen_ok,Sem.run_pure];rw[<-hl,run_loadCells_list (P:=Tryz.prog) w ⟨b,p,none⟩ us (λj v hv=>by rw[Addr.add_lit];exact hc j v hv)];rfl
 | false =>
  have h2:=h1 ha
  match us,h2 with
  | [u],_ =>
   have h3:=hc 0 u rfl;simp only[Nat.add_zero] at h3
   simp[h3]
end
end
section
def a4i (I:Nat->Nat->Prop) (w:World):List Value->List R->Prop
 | [],[]=>True
 | v::vs,r::rs=>AtR I w v r/\a4i I w vs rs
 | _,_=>False
def a2H (I:Nat->Nat->Prop) (w:World) (v:Value):List R->Prop
 | [r]=>AtR I w v r
 | rs=>∃us,v=.tuple us.toArray/\a4i I w us rs
def nxt (I:Nat->Nat->Prop) (w w':World) (b h:Nat):Prop:=I b h\/(w.heap.size<=b/\b<w'.heap.size)
def a0T (P:Program) (f:Nat):Bool:=match P.funcs[f]? with|some fn=>fn.name != "runtime.NumGoroutine" && fn.body.isSome|none=>false
def j5 (f:Nat) (rs q:List R):Prop:=a0T Tryz.prog f=true/\∀(I:Nat->Nat->Prop) (w:World) (args:List Value),Wld I w->a4i I w args rs ->
 Calls Tryz.prog f args.toArray w λe w'=>∃v,e=.returned v/\a2H (nxt I w w') w' v q/\Below w.heap.size w w'
theorem a4i.mono {I I':Nat->Nat->Prop} {w w':World} (hI:∀b h,I b h->I' b h) (hk:A1 I w w'):∀ {vs:List Value} {rs:List R},a4i I w vs rs->a4i I' w' vs rs
 | [],[],_=>trivial
 | _::_,_::_,h=>⟨h.1.mono hI hk,h.2.mono hI hk⟩
 | [],_::_,h=>h.elim
 | _::_,[],h=>h.elim
theorem a4i.len {I:Nat->Nat->Prop} {w:World}:∀ {vs:List Value} {rs:List R},a4i I w vs rs->vs.length=rs.length
 | [],[],_=>rfl
 | _::_,_::_,h=>by simp[h.2.len]
 | [],_::_,h=>h.elim
 | _::_,[],h=>h.elim
theorem a8r {I:Nat->Nat->Prop} {w:World} (g:Nat->Value) {v:Value} {r:R} (h:AtR I w v r):AtV I w g v (b63 r):=by
 cases r with
 | one x=>exact .d h
 | ag xs=>obtain⟨us,rfl,h2⟩:=h;exact a0F (h2.toV g)
theorem a3s {I:Nat->Nat->Prop} {w:World} (g:Nat->Value):∀ {vs:List Value} {rs:List R},a4i I w vs rs->n6 I w g vs (a9n rs)
 | [],[],_=>.nil I w g
 | _::_,_::_,h=>.cons (a8r g h.1) (a3s g h.2)
 | [],_::_,h=>h.elim
 | _::_,[],h=>h.elim
theorem b2b {I:Nat->Nat->Prop} {w:World} (g:Nat->Value) {v:Value} {rs:List R} (h:a2H I w v rs):AtV I w g v (b3g rs):=by
 match rs,h with
 | [],h=>obtain⟨us,rfl,h2⟩:=h;exact a0G (a3s g h2)
 | [r],h=>exact a8r g h
 | r::r'::rs,h=>obtain⟨us,rfl,h2⟩:=h;exact a0G (a3s g h2)
section
variable {I0:Nat->Nat->Prop} {X:Nat->Prop} {w0:W0} {I:Nat->Nat->Prop} {g:Nat->Value} {s:S} {a:Act} {w:World}
theorem a8s (h:RelI I0 X w0 I g s a w) {v:Value} {x:V} {d:D} (hv:AtV I w g v x) (hd:toD s.o x=some d):AtD I w v d:=by
 cases x with
 | d x=>rw[toD] at hd;injection hd with hd;subst hd;cases hv with|d h=>exact h
 | em=>rw[toD] at hd;injection hd with hd;subst hd;cases hv;exact .nil _ _ _
 | own k =>
  rw[toD] at hd
  split at hd
  ·rename_i e rows ho;injection hd with hd;subst hd;have hk:=A5 ho (by simp);obtain⟨us,h1,h2,h3,h4⟩:=h.obj k _ hk;cases hv with
   | own k A n cap hg =>
    rw[a1O h1] at hg
    rcases h1.2 with⟨e1,e2⟩|⟨g1,cap1,cur,e1,_,hh,hnc,_⟩
    ·rw[hg] at e1;injection e1 with e1 e3 e4;subst e1;subst e3;subst e4;rw[List.eq_nil_of_length_eq_zero e2];exact .nil _ _ _
    ·rw[hg] at e1;injection e1 with e1 e3 e4;subst e1;subst e3;subst e4;refine .sl g1 0 cap _ rows us hnc ?_ h2 h1.1 (λi u hu=>?_) h3.2
     ·rw[Nat.zero_add];exact⟨_,Nat.le_refl _,(h4 g1 (by rw[hg];rfl)).1 rfl⟩
     ·rw[Nat.zero_add];have hlt:i<rows.length * (ty e).sz:=by rw[<-h1.1];exact(List.getElem?_eq_some_iff.1 hu).1
      rw[hg] at h1;rw[World.ownsRow.cellAt h1 i hlt,hu]
  ·cases hd
 | ag cs=>rw[toD] at hd <;> first|cases hd|simp
 | tu cs=>rw[toD] at hd <;> first|cases hd|simp
 | ptr k off=>rw[toD] at hd <;> first|cases hd|simp
 | cl f ks =>
  cases ks with
  | nil =>
   rw[toD] at hd;injection hd with hd;subst hd;cases hv with
   | cl f us ks hl h =>
    rw[List.eq_nil_of_length_eq_zero hl];exact .sc _ rfl
  | cons k ks=>rw[toD] at hd <;> first|cases hd|simp
 | el k i sz off=>rw[toD] at hd <;> first|cases hd|simp
 | ro cs off=>rw[toD] at hd <;> first|cases hd|simp
 | mp k=>rw[toD] at hd <;> first|cases hd|simp
 | bs k n=>rw[toD] at hd <;> first|cases hd|simp
 | jk=>rw[toD] at hd <;> first|cases hd|simp
theorem a3t (h:RelI I0 X w0 I g s a w):∀ {xs:List V} {vs:List Value} {ds:List D},n6 I w g vs xs->a2U s.o xs=some ds->A8 I w vs ds
 | [],vs,ds,hv,hd=>by
  rw[a2U] at hd;injection hd with hd;subst hd;rw[hv.unnil];exact .nil I w
 | x::xs,vs,ds,hv,hd=>by
  obtain⟨u,us,rfl,h1,h2⟩:=hv.uncons;rw[a2U] at hd
  split at hd
  ·rename_i y hy
   split at hd
   ·rename_i ys hys;injection hd with hd;subst hd;exact .cons (a8s h h1 hy) (a3t h h2 hys)
   ·cases hd
  ·cases hd
theorem a59 (h:RelI I0 X w0 I g s a w) {v:Value} {x:V} {r:R} (hv:AtV I w g v x) (hr:toR s.o x=some r):AtR I w v r:=by
 by_cases hx:∃l,x=.ag l
 ·obtain⟨l,rfl⟩:=hx;rw[toR] at hr
  split at hr
  ·rename_i ys hys;injection hr with hr;subst hr;obtain⟨us,rfl,h2⟩:=hv.unag;exact⟨us,rfl,a3t h h2 hys⟩
  ·cases hr
 ·rw[toR] at hr
  ·split at hr
   ·rename_i y hy;injection hr with hr;subst hr;exact a8s h hv hy
   ·cases hr
  ·exact λl e=>hx ⟨l,e⟩
theorem a8t (h:RelI I0 X w0 I g s a w):∀ {xs:List V} {vs:List Value} {rs:List R},n6 I w g vs xs->a7b s.o xs=some rs->a4i I w vs rs
 | [],vs,rs,hv,hd=>by
  rw[a7b] at hd;injection hd with hd;subst hd;rw[hv.unnil]
  trivial
 | x::xs,vs,rs,hv,hd=>by
  obtain⟨u,us,rfl,h1,h2⟩:=hv.uncons;rw[a7b] at hd
  split at hd
  ·rename_i y hy
   split at hd
   ·rename_i ys hys;injection hd with hd;subst hd;exact⟨a59 h h1 hy,a8t h h2 hys⟩
   ·cases hd
  ·cases hd
end
def a4M:List V->List V->Prop
 | [],[]=>True
 | _::l,.jk::m=>a4M l m
 | x::l,y::m=>x=y/\a4M l m
 | _,_=>False
def b3k:List Nat->List Nat->Bool
 | [],_=>true
 | k::l,m=>match a5e k m with|true=>b3k l m|false=>false
def a2I:List O->List O->Prop
 | _,[]=>True
 | .box cs::l,.box ds::m=>a4M cs ds/\a2I l m
 | .row z e r::l,.row z' e' r'::m=>(z=z'/\e=e'/\r=r')/\a2I l m
 | .mp k es::l,.mp k' es'::m=>(k=k'/\es=es')/\a2I l m
 | .kl ks::l,.kl ks'::m=>b3k ks ks'=true/\a2I l m
 | .it P::l,.it P'::m=>P=P'/\a2I l m
 | .ob T vs::l,.ob T' vs'::m=>(T=T'/\vs=vs')/\a2I l m
 | _::l,.dead::m=>a2I l m
 | _,_=>False
def b3l (n:Nat):List Nat->Bool
 | []=>true
 | k::l=>match Nat.blt k n with|true=>b3l n l|false=>false
def a1B (n:Nat):V->Bool
 | .own k=>Nat.blt k n
 | .ptr k _=>Nat.blt k n
 | .cl _ ks=>b3l n ks
 | .el k _ _ _=>Nat.blt k n
 | .mp k=>Nat.blt k n
 | .bs k _=>Nat.blt k n
 | .ag _=>false
 | .tu _=>false
 | _=>true
def a5A (n:Nat):List V->Bool
 | []=>true
 | x::l=>match a1B n x with|true=>a5A n l|false=>false
def b86 (n:Nat):V->Bool
 | .ag cs=>a5A n cs
 | .tu []=>true
 | .tu _=>false
 | x=>a1B n x
def a8u (n:Nat):List V->Bool
 | []=>true
 | x::l=>match b86 n x with|true=>a8u n l|false=>false
def a1P (n:Nat):List O->Bool
 | []=>true
 | .box cs::l=>match a5A n cs with|true=>a1P n l|false=>false
 | _::l=>a1P n l
def weak (s s':S):Prop:=a4M s.t s'.t/\a2I s.o s'.o/\a8u (o7 s'.o) s'.t=true/\a1P (o7 s'.o) s'.o=true
theorem a8v {n:Nat}:∀ {ks:List Nat} {i k:Nat},b3l n ks=true->ks[i]?=some k->k<n
 | [],i,k,_,hk=>by simp at hk
 | x::ks,i,k,h,hk=>by
  rw[b3l] at h
  split at h
  ·rename_i hx;cases i with
   | zero=>simp at hk;subst hk;simpa [Nat.blt_eq] using hx
   | succ i=>exact a8v h (by simpa using hk)
  ·cases h
theorem a3u {n:Nat}:∀ {l:List O} {k:Nat} {cs:List V},a1P n l=true->l[k]?=some (.box cs)->a5A n cs=true
 | [],k,cs,_,h=>by simp at h
 | x::l,k,cs,hl,h=>by
  cases k with
  | zero =>
   simp at h
   subst h;rw[a1P] at hl
   split at hl
   ·assumption
   ·cases hl
  | succ k =>
   refine a3u (l:=l) (k:=k) ?_ (by simpa using h);cases x with
   | box ds =>
    rw[a1P] at hl
    split at hl
    ·exact hl
    ·cases hl
   | row z e r=>exact hl
   | mp kt es=>exact hl
   | kl ks=>exact hl
   | it P=>exact hl
   | ob T vs=>exact hl
   | dead=>exact hl
def a4j (t:Nat):Bool:=match (ty t).elem with|some e=>j6 e|none=>true
def a9x (t:Nat):Bool:=match (ty t).kind with
 | .array=>match (ty t).val with|some e=>j6 e|none=>true
 | _=>true
def b87 (t:Nat):Bool:=match (ty t).kind with|.ptr=>j6 t|.bool=>j6 t|.slice=>j6 t && (ty t).elem.isSome|.struct=>j6 t && (ty t).fty.all j6|_=>true
def a5B (t:Nat):Bool:=match (ty t).key,(ty t).val with
 | some k,some e=>j6 k && j6 e && (ty k).fty.all j6
 | _,_=>false
def a4k (t:Nat):Bool:=match (ty t).elem with
 | some e=>j6 e && (match (ty e).kind with|.int k=>keq k .u8|_=>false)
 | none=>false
def a4l (t u:Nat):Bool:=(a1h (Z1 (ty t).kind) || a1h (a9o (ty u).kind) || a4k t) && (a1h (a9o (ty t).kind) || a1h (Z1 (ty u).kind) || a4k u)
def Z8 (P:Program):Op->Bool
 | .load t _=>j6 t
 | .store t _ _=>j6 t
 | .fieldAddr t _ _=>j6 t
 | .field t _ _=>j6 t && (ty t).fty.all j6
 | .indexAddr t _ _=>(j6 t && a4j t) && a9x t
 | .index t _ _=>j6 t && a9x t
 | .binOp _ t _ _ _=>b87 t
 | .lookup t _ _ _=>j6 t && a5B t
 | .mapUpdate t _ _ _=>j6 t && a5B t
 | .convert t u _=>j6 t && j6 u && a4l t u
 | .build t _=>j6 t && a9x t
 | .buildSlice t n _=>(j6 t && Nat.ble n 16777216) && match (ty t).elem with|some e=>j6 e && Nat.ble (n * (ty e).sz) 16777216|none=>true
 | .slice t _ _ _ _=>j6 t && a4j t
 | .makeSlice t _ _=>j6 t && a4j t
 | .alloc e=>j6 e
 | .box e _=>j6 e
 | .call ⟨.builtin .len,_,⟨[t]⟩⟩=>j6 t
 | .call ⟨.builtin .append,_,⟨[t,u]⟩⟩=>j6 t && a4j t && K7 t u && match (ty t).elem with|some e=>Nat.blt 0 (ty e).sz|none=>true
 | .call ⟨.value (.func f),_,_⟩=>a0T P f
 | .defer _=>false
 | _=>true
end
section
def Xof (g:Nat->Value) (os:List O) (b:Nat):Prop:=∃k o,os[k]?=some o/\o≠.dead/\gbl (g k) b
def pkg:List Value->Value
 | [v]=>v
 | vs=>.tuple vs.toArray
def B0 (f:Nat) (vs:List V) (os:List O) (Q:List V->List O->Prop):Prop:=a0T Tryz.prog f=true/\∀(I:Nat->Nat->Prop) (w:World) (g:Nat->Value) (args:List Value),
 RelI I (Xof g os) ⟨w,g,os.length,[]⟩ I g ⟨vs,os⟩ { tmps:=args.toArray,defers:=[] } w ->
 Calls Tryz.prog f args.toArray w λe w'=>∃us res os2 I' g',e=.returned (pkg us)/\Q res os2/\RelI I (Xof g os) ⟨w,g,os.length,[]⟩ I' g' ⟨res,os2⟩ { tmps:=us.toArray,defers:=[] } w'
section
variable {I0:Nat->Nat->Prop} {X:Nat->Prop} {w0:W0} {I:Nat->Nat->Prop} {g:Nat->Value} {s:S} {a:Act} {w:World}
theorem a5C:∀ {ks:List Nat} {n j:Nat},j<ks.length->ks[j]?=some (upN ks n j)
 | [],n,j,h=>by simp at h
 | k::ks,n,0,_=>rfl
 | k::ks,n,j+1,h=>by rw[upN];simpa using a5C (n:=n) (by simpa using h)
theorem b0O:∀ {ks:List Nat} {n j:Nat},ks.length<=j->upN ks n j=n+(j - ks.length)
 | [],n,j,h=>by rw[upN];simp
 | k::ks,n,0,h=>by simp at h
 | k::ks,n,j+1,h=>by rw[upN,b0O (by simpa using h)];simp
theorem a8w {ks:List Nat} {n:Nat}:∀(l:List Nat) (i:Nat),(upK ks n l)[i]?=(l[i]?).map (upN ks n)
 | [],i=>by simp[upK]
 | j::l,0=>by simp[upK]
 | j::l,i+1=>by simpa [upK] using a8w l i
theorem a8x {ks:List Nat} {n:Nat}:∀l:List Nat,(upK ks n l).length=l.length
 | []=>rfl
 | j::l=>by simp[upK,a8x l]
theorem a2J {g1:Nat->Value} {ks:List Nat} {n m:Nat} (hg:∀j,j<m->g1 j=g (upN ks n j)) {v:Value} {x:V} (h:AtV I w g v (up1 ks n x)) (hl:a1B m x=true):AtV I w g1 v x:=by
 cases x with
 | d x=>exact(by cases h with|d h=>exact .d h)
 | ag cs=>cases hl
 | tu cs=>cases hl
 | em=>cases h;exact .em
 | own j =>
  cases h with
  | own k A n cap h=>exact .own j A n cap ((congrArg gv (hg j (by simpa [a1B,Nat.blt_eq] using hl))).trans h)
 | ptr j off =>
  cases h with
  | ptr k off b h=>exact .ptr j off b ((hg j (by simpa [a1B,Nat.blt_eq] using hl)).trans h)
 | cl f l =>
  cases h with
  | cl f us ks' hlen h =>
   rw[a1B] at hl;refine .cl f us l (by rw[hlen,a8x]) λi u k hu hk=>?_
   have h1:=h i u (upN ks n k) hu (by rw[a8w,hk];rfl);have h2:=hg k (a8v hl hk);rw[h2];exact h1
 | el j i sz off =>
  cases h with
  | el k i sz off b n cap h=>exact .el j i sz off b n cap ((hg j (by simpa [a1B,Nat.blt_eq] using hl)).trans h)
 | ro cs off=>cases h with|ro b o off us cs hi hc hd=>exact .ro b o off us cs hi hc hd
 | mp j =>
  cases h with
  | mp k b h=>exact .mp j b ((hg j (by simpa [a1B,Nat.blt_eq] using hl)).trans h)
 | bs j m' =>
  cases h with
  | bs k n' b cap h hn=>exact .bs j m' b cap ((hg j (by simpa [a1B,Nat.blt_eq] using hl)).trans h) hn
 | jk=>exact .jk _
theorem b2c {g1:Nat->Value} {ks:List Nat} {n m:Nat} (hg:∀j,j<m->g1 j=g (upN ks n j)):∀ {cs:List V} {us:List Value},n6 I w g us (upL ks n cs)->a5A m cs=true->n6 I w g1 us cs
 | [],us,h,_=>by rw[upL] at h;rw[h.unnil];exact .nil I w g1
 | c::cs,us,h,hl=>by
  rw[upL] at h;obtain⟨u,us',rfl,h1,h2⟩:=h.uncons;rw[a5A] at hl
  split at hl
  ·rename_i hc;exact .cons (a2J hg h1 hc) (b2c hg h2 hl)
  ·cases hl
theorem b4y {g1:Nat->Value} {ks:List Nat} {n m:Nat} (hg:∀j,j<m->g1 j=g (upN ks n j)):∀ {cs:List V} {us:List Value},n6 I w g us (upT ks n cs)->a8u m cs=true->n6 I w g1 us cs
 | [],us,h,_=>by rw[upT] at h;rw[h.unnil];exact .nil I w g1
 | c::cs,us,h,hl=>by
  rw[upT] at h;obtain⟨u,us',rfl,h1,h2⟩:=h.uncons;rw[a8u] at hl
  split at hl
  ·rename_i hc;refine .cons ?_ (b4y hg h2 hl);cases c with
   | ag l=>obtain⟨vs,rfl,h3⟩:=AtV.unag h1;exact a0F (b2c hg h3 hc)
   | tu l =>
    cases l with
    | nil =>
     obtain⟨vs,rfl,h3⟩:=AtV.untu h1;rw[h3.unnil];exact a0G (.nil I w g1)
    | cons c l=>cases hc
   | d x=>exact a2J hg h1 hc
   | em=>exact a2J hg h1 hc
   | own k=>exact a2J hg h1 hc
   | ptr k off=>exact a2J hg h1 hc
   | cl f l=>exact a2J hg h1 hc
   | el k i sz off=>exact a2J hg h1 hc
   | ro l off=>exact a2J hg h1 hc
   | mp k=>exact a2J hg h1 hc
   | bs k n=>exact a2J hg h1 hc
   | jk=>exact .jk _
  ·cases hl
theorem b4z {g1:Nat->Value} {ks:List Nat} {n:Nat} (hg:∀j,g1 j≠.nilFunc->g (upN ks n j)=g1 j) {v:Value} {x:V} (h:AtV I w g1 v x):AtV I w g v (up1 ks n x):=by
 cases h with
 | d h=>exact .d h
 | ag=>exact .jk _
 | tu=>exact .jk _
 | em=>exact .em
 | own j A m cap h=>exact .own _ A m cap ((congrArg gv (hg j (by intro e;rw[e] at h;cases h))).trans h)
 | ptr j off b h=>exact .ptr _ off b ((hg j (by rw[h];simp)).trans h)
 | cl f us l hl h =>
  refine .cl f us _ (by rw[a8x];exact hl) λi u k hu hk=>?_
  rw[a8w] at hk;obtain⟨j,hj,rfl⟩:=Option.map_eq_some_iff.1 hk;obtain⟨h1,b,h2⟩:=h i u j hu hj;have h3:=hg j (by rw[h2];simp);exact⟨h1.trans h3.symm,b,h3.trans h2⟩
 | el j i sz off b m cap h=>exact .el _ i sz off b m cap ((hg j (by rw[h];simp)).trans h)
 | ro b o off us cs hi hc hd=>exact .ro b o off us cs hi hc hd
 | mp j b h=>exact .mp _ b ((hg j (by rw[h];simp)).trans h)
 | bs j m' b cap h hn=>exact .bs _ m' b cap ((hg j (by rw[h];simp)).trans h) hn
 | jk v=>exact .jk v
theorem b40 {g1:Nat->Value} {ks:List Nat} {n:Nat} (hg:∀j,g1 j≠.nilFunc->g (upN ks n j)=g1 j):∀ {cs:List V} {us:List Value},n6 I w g1 us cs->n6 I w g us (upL ks n cs)
 | [],us,h=>by rw[h.unnil];exact .nil I w g
 | c::cs,us,h=>by
  obtain⟨u,us',rfl,h1,h2⟩:=h.uncons;exact .cons (b4z hg h1) (b40 hg h2)
theorem c0g {g1:Nat->Value} {ks:List Nat} {n:Nat} (hg:∀j,g1 j≠.nilFunc->g (upN ks n j)=g1 j) {v:Value} {x:V} (h:AtV I w g1 v x):AtV I w g v (up2 ks n x):=by
 cases x with
 | ag l=>obtain⟨vs,rfl,h3⟩:=AtV.unag h;exact a0F (b40 hg h3)
 | tu l =>
  cases l with
  | nil =>
   obtain⟨vs,rfl,h3⟩:=AtV.untu h;rw[h3.unnil];exact a0G (.nil I w g)
  | cons c l=>exact b4z hg h
 | _=>exact b4z hg h
theorem b8e {g1:Nat->Value} {ks:List Nat} {n:Nat} (hg:∀j,g1 j≠.nilFunc->g (upN ks n j)=g1 j):∀ {cs:List V} {us:List Value},n6 I w g1 us cs->n6 I w g us (upT ks n cs)
 | [],us,h=>by rw[h.unnil];exact .nil I w g
 | c::cs,us,h=>by
  obtain⟨u,us',rfl,h1,h2⟩:=h.uncons;exact .cons (c0g hg h1) (b8e hg h2)
theorem b41:∀ {vs:List V} {us:List Value},n6 I w g us vs->AtV I w g (pkg us) (a0u vs)
 | [],us,h=>by rw[h.unnil];exact a0G (.nil I w g)
 | [v],us,h=>by
  obtain⟨u,us',rfl,h1,h2⟩:=h.uncons;rw[h2.unnil];exact h1
 | v::v'::vs,us,h=>by
  obtain⟨u,us',rfl,h1,h2⟩:=h.uncons;obtain⟨u',us'',rfl,h3,h4⟩:=h2.uncons;exact a0G h
def a8y:List Nat->List V->List V
 | [],t=>t
 | k::ks,t=>a8y ks (A0 k t)
theorem a7p {g2:Nat->Value}:∀(ks:List Nat) (g:Nat->Value) {cs:List V} {us:List Value},(∀j,j∉ks->g2 j=g j)->(∀j,Q0 (g j)=true->g2 j=g j)->n6 I w g us cs->n6 I w g2 us (a8y ks cs)
 | [],g,cs,us,hg,hp,h=>by
  have:g2=g:=funext λj=>hg j (by simp)
  subst this;exact h
 | k::ks,g,cs,us,hg,hp,h=>by
  refine a7p ks (upd g k (g2 k)) (λj hj=>?_) (λj hb=>?_) (a0Q (k:=k) (λj hj=>A2 hj) (λha=>by rw[n7];exact hp k ha) h)
  ·by_cases e:j=k
   ·subst e;rw[n7]
   ·rw[A2 e];exact hg j (by simp[e,hj])
  ·by_cases e:j=k
   ·subst e;rw[n7]
   ·rw[A2 e] at hb ⊢;exact hp j hb
theorem a4m {g2:Nat->Value}:∀(ks:List Nat) (g:Nat->Value) {cs:List V} {us:List Value},(∀j,j∉ks->g2 j=g j)->(∀j,Q0 (g j)=true->g2 j=g j)->n6 I w g us cs->n6 I w g2 us (A7 ks cs)
 | [],g,cs,us,hg,hp,h=>by
  have:g2=g:=funext λj=>hg j (by simp)
  subst this;exact h
 | k::ks,g,cs,us,hg,hp,h=>by
  refine a4m ks (upd g k (g2 k)) (λj hj=>?_) (λj hb=>?_) (a1N (k:=k) (λj hj=>A2 hj) (λha=>by rw[n7];exact hp k ha) h)
  ·by_cases e:j=k
   ·subst e;rw[n7]
   ·rw[A2 e];exact hg j (by simp[e,hj])
  ·by_cases e:j=k
   ·subst e;rw[n7]
   ·rw[A2 e] at hb ⊢;exact hp j hb
def a5D:List Nat->List Nat->List Nat
 | [],l=>l
 | k::ks,l=>a5D ks (k::l)
theorem a2W:∀ {ks l:List Nat} {j:Nat},j∈ks\/j∈l->j∈a5D ks l
 | [],l,j,h=>h.resolve_left (by simp)
 | k::ks,l,j,h=>by
  rw[a5D];refine a2W ?_
  rcases h with h|h
  ·rcases List.mem_cons.1 h with rfl|h
   ·exact .inr (List.mem_cons_self ..)
   ·exact .inl h
  ·exact .inr (List.mem_cons_of_mem _ h)
theorem a2X:∀(ks:List Nat) (l:List O) (j:Nat) (o:O),(P5 ks l)[j]?=some o->∃o',l[j]?=some o'/\(o≠.dead->o'≠.dead)/\((∃cs,o'=.box cs/\o=.box (a8y ks cs))\/(∃js,o'=.kl js/\o=.kl (a5D ks js))\/(o=o'/\(∀cs,o≠.box cs)/\∀js,o≠.kl js))
 | [],l,j,o,h=>⟨o,h,λh=>h,by
  cases o with
  | box cs=>exact .inl ⟨cs,rfl,rfl⟩
  | kl js=>exact .inr (.inl ⟨js,rfl,rfl⟩)
  | row z e r=>exact .inr (.inr ⟨rfl,by simp,by simp⟩)
  | mp kt es=>exact .inr (.inr ⟨rfl,by simp,by simp⟩)
  | it P=>exact .inr (.inr ⟨rfl,by simp,by simp⟩)
  | ob T vs=>exact .inr (.inr ⟨rfl,by simp,by simp⟩)
  | dead=>exact .inr (.inr ⟨rfl,by simp,by simp⟩)⟩
 | k::ks,l,j,o,h=>by
  obtain⟨o1,h1,h2,h3⟩:=a2X ks (A6 k l) j o h;obtain⟨o2,h4,h5,h6⟩:=Q5 k l j o1 h1;refine⟨o2,h4,λhd=>h5 (h2 hd),?_⟩
  rcases h3 with⟨cs,rfl,rfl⟩|⟨cs,rfl,rfl⟩|⟨rfl,hb,hf⟩
  ·rcases h6 with⟨cs',rfl,e⟩|⟨cs',rfl,e⟩|⟨rfl,hb,_⟩
   ·injection e with e;subst e;exact .inl ⟨cs',rfl,rfl⟩
   ·cases e
   ·exact absurd rfl (hb cs)
  ·rcases h6 with⟨cs',rfl,e⟩|⟨cs',rfl,e⟩|⟨rfl,_,hb⟩
   ·cases e
   ·injection e with e;subst e;exact .inr (.inl ⟨cs',rfl,rfl⟩)
   ·exact absurd rfl (hb cs)
  ·rcases h6 with⟨cs',rfl,e⟩|⟨cs',rfl,e⟩|⟨rfl,_,_⟩
   ·exact absurd e (hb _)
   ·exact absurd e (hf _)
   ·exact .inr (.inr ⟨rfl,hb,hf⟩)
theorem J3:∀(ks:List Nat) (l:List O),(P5 ks l).length=l.length
 | [],l=>rfl
 | k::ks,l=>by rw[P5,J3 ks,G8]
theorem a3w:∀l m:List O,b3i l m=l++m
 | [],m=>rfl
 | x::l,m=>by rw[b3i,a3w l m];rfl
theorem a0x:∀ {ks:List Nat} {os l:List O},ks.Nodup->(∀k∈ks,k<l.length)->ks.length<=os.length->∀ {i k:Nat},ks[i]?=some k->(E1 ks os l)[k]?=os[i]?
 | [],os,l,_,_,_,i,k,h=>by simp at h
 | k0::ks,[],l,_,_,hl,i,k,h=>by simp at hl
 | k0::ks,x::os,l,hn,hk,hl,i,k,h=>by
  rw[E1,H5];obtain⟨hn1,hn2⟩:=List.nodup_cons.1 hn;have hk':∀k∈ks,k<(l.set k0 x).length:=λk hm=>by rw[List.length_set];exact hk k (List.mem_cons_of_mem _ hm)
  cases i with
  | zero =>
   simp at h
   subst h;rw[backO_out hk' (by simpa using hl) hn1 (by rw[List.length_set];exact hk _ (List.mem_cons_self ..)),List.getElem?_set_self (hk _ (List.mem_cons_self ..))];rfl
  | succ i =>
   rw[a0x hn2 hk' (by simpa using hl) (i:=i) (by simpa using h)]
   simp
where
 backO_out:∀ {ks:List Nat} {os l:List O},(∀k∈ks,k<l.length)->ks.length<=os.length->∀ {k:Nat},k∉ks->k<l.length->(E1 ks os l)[k]?=l[k]?
  | [],os,l,_,_,k,_,hlt=>by
   rw[E1,a3w,List.getElem?_append_left hlt]
   simp
  | k0::ks,[],l,_,hl,k,_,_=>by simp at hl
  | k0::ks,x::os,l,hk,hl,k,hn,hlt=>by
   rw[E1,H5,backO_out (λk hm=>by rw[List.length_set];exact hk k (List.mem_cons_of_mem _ hm)) (by simpa using hl) (λhm=>hn (List.mem_cons_of_mem _ hm)) (by rw[List.length_set];exact hlt),List.getElem?_set_ne λe=>hn (by rw[<-e];exact List.mem_cons_self ..)]
theorem a2u:∀ {ks:List Nat} {os l:List O},ks.length<=os.length->∀d,(E1 ks os l)[l.length+d]?=os[ks.length+d]?
 | [],os,l,_,d=>by
  rw[E1,a3w,List.getElem?_append_right (Nat.le_add_right _ _)]
  ·simp
  ·simp
 | k0::ks,[],l,hl,d=>by simp at hl
 | k0::ks,x::os,l,hl,d=>by
  rw[E1,H5];have:=a2u (ks:=ks) (os:=os) (l:=l.set k0 x) (by simpa using hl) d;rw[List.length_set] at this;rw[this,List.length_cons,Nat.add_right_comm]
  simp
theorem a4n:∀ {ks:List Nat} {os l:List O},ks.length<=os.length->(E1 ks os l).length=l.length+(os.length - ks.length)
 | [],os,l,_=>by
  rw[E1,a3w]
  ·simp
  ·simp
 | k0::ks,[],l,hl=>by simp at hl
 | k0::ks,x::os,l,hl=>by
  rw[E1,H5,a4n (by simpa using hl),List.length_set]
  simp
theorem a1Q {ks:List Nat} {n:Nat}:∀(l:List O) (i:Nat),(N2 ks n l)[i]?=(l[i]?).map (upO ks n)
 | [],i=>by simp[N2]
 | j::l,0=>by simp[N2]
 | j::l,i+1=>by simpa [N2] using a1Q l i
theorem a0U {ks:List Nat} {n:Nat}:∀l:List O,(N2 ks n l).length=l.length
 | []=>rfl
 | j::l=>by simp[N2,a0U l]
theorem a2v {k:Nat}:∀ {l:List Nat},a5e k l=true↔k∈l
 | []=>by simp[a5e]
 | j::l=>by
  rw[a5e];cases e:K7 j k
  ·show a5e k l=true↔k∈j::l;rw[a2v,List.mem_cons];have:=a1l.1 e;exact Iff.intro (λh=>.inr h) λh=>h.resolve_left λe=>this e.symm
  ·simp[B2.1 e]
theorem a2w:∀ {l:List Nat},a55 l=true->l.Nodup
 | [],_=>List.nodup_nil
 | k::l,h=>by
  rw[a55] at h
  split at h
  ·cases h
  ·rename_i hm;exact List.nodup_cons.2 ⟨λhk=>(by rw[a2v.2 hk] at hm;cases hm),a2w h⟩
theorem a4o:∀ {l:List Nat},l.Nodup->∀ {i j k:Nat},l[i]?=some k->l[j]?=some k->i=j
 | [],_,i,j,k,h,_=>by simp at h
 | x::l,hn,i,j,k,hi,hj=>by
  obtain⟨h1,h2⟩:=List.nodup_cons.1 hn;cases i with
  | zero =>
   cases j with
   | zero=>rfl
   | succ j =>
    simp at hi hj
    subst hi;exact absurd (List.mem_of_getElem? hj) h1
  | succ i =>
   cases j with
   | zero =>
    simp at hi hj
    subst hj;exact absurd (List.mem_of_getElem? hi) h1
   | succ j=>exact congrArg (·+1) (a4o h2 (k:=k) (by simpa using hi) (by simpa using hj))
theorem a5E:∀ {ks:List Nat} {l:List O} {i k:Nat},ks[i]?=some k->(pick ks l)[i]?=some (y5 l k)
 | [],_,_,_,h=>by simp at h
 | k0::ks,l,0,k,h=>by simp at h;subst h;rfl
 | k0::ks,l,i+1,k,h=>by simpa [pick] using a5E (l:=l) (i:=i) (by simpa using h)
theorem U8:∀ {l:List O},b4q l=true->∀o∈l,o≠.dead/\∀js,o≠.kl js
 | [],_,o,h=>by simp at h
 | x::l,h,o,hm=>by
  cases x with
  | dead=>cases h
  | box cs =>
   rcases List.mem_cons.1 hm with rfl|hm
   ·simp
   ·exact U8 (l:=l) h o hm
  | row z e r =>
   rcases List.mem_cons.1 hm with rfl|hm
   ·simp
   ·exact U8 (l:=l) h o hm
  | mp kt es =>
   rcases List.mem_cons.1 hm with rfl|hm
   ·simp
   ·exact U8 (l:=l) h o hm
  | it P =>
   rcases List.mem_cons.1 hm with rfl|hm
   ·simp
   ·exact U8 (l:=l) h o hm
  | ob T vs =>
   rcases List.mem_cons.1 hm with rfl|hm
   ·simp
   ·exact U8 (l:=l) h o hm
  | kl js=>cases h
structure SubOk (ks:List Nat) (vs':List V) (os':List O) (vs:List V) (s:S):Prop where
 nd:a55 ks=true
 len:o7 os'=G5 ks
 args:upT ks (o7 s.o) vs'=vs
 objs:pick ks s.o=N2 ks (o7 s.o) os'
 al:b4q os'=true
 low:a8u (G5 ks) vs'=true
 lowo:a1P (G5 ks) os'=true
theorem SubOk.nokl {ks:List Nat} {vs' vs:List V} {os':List O} {s:S} (h:SubOk ks vs' os' vs s) {i:Nat} {o:O} (ho:os'[i]?=some o):∀js,o≠.kl js:=(U8 h.al o (List.mem_of_getElem? ho)).2
theorem SubOk.obj {ks:List Nat} {vs' vs:List V} {os':List O} (h:SubOk ks vs' os' vs s) {i k:Nat} (hi:ks[i]?=some k):∃o,os'[i]?=some o/\(o≠.dead/\∀js,o≠.kl js)/\s.o[k]?=some (upO ks s.o.length o):=by
 have hl:=h.len;rw[r6,J2] at hl;have hlt:i<os'.length:=by rw[hl];exact(List.getElem?_eq_some_iff.1 hi).1
 have h1:=a5E (l:=s.o) hi;rw[h.objs,a1Q,List.getElem?_eq_getElem hlt] at h1;have hd:=U8 h.al os'[i] (List.getElem_mem hlt);refine⟨os'[i],List.getElem?_eq_getElem hlt,hd,?_⟩;have h2:=Option.some.inj h1;rw[<-r6,h2];refine A5 rfl ?_;rw[<-h2];generalize os'[i]=o at hd;cases o <;> simp_all [upO]
def sub (ks:List Nat) (g:Nat->Value) (i:Nat):Value:=match ks[i]? with|some k=>g k|none=>.nilFunc
theorem b42 (h:RelI I0 X w0 I g s a w) {ks:List Nat} {vs' vs:List V} {os':List O} {args:List Value} (hs:SubOk ks vs' os' vs s) (hv:n6 I w g args vs):RelI I (Xof (sub ks g) os') ⟨w,sub ks g,os'.length,[]⟩ I (sub ks g) ⟨vs',os'⟩ { tmps:=args.toArray,defers:=[] } w:=by
 have hl:=hs.len;rw[r6,J2] at hl
 have hg:∀j,j<G5 ks->sub ks g j=g (upN ks (o7 s.o) j):=λj hj=>by
  rw[J2] at hj;unfold sub;rw[a5C hj]
 have hgs:∀ {i k:Nat},ks[i]?=some k->sub ks g i=g k:=λ{i k} h=>by unfold sub;rw[h]
 have hX:∀ {i:Nat} {o:O},os'[i]?=some o->o≠.dead->∀b,gbl (sub ks g i) b->a1k (Xof (sub ks g) os') ⟨w,sub ks g,os'.length,[]⟩ b:=λ{i o} ho hd b hb=>.inr ⟨i,o,ho,hd,hb⟩
 refine⟨λ_ _ h=>h,λb k hb=>⟨(h.lt b k hb).1,λ_=>.inl hb⟩,Fr.refl _ _,A1.refl _ _,Nat.le_refl _,λ_ _ _=>rfl,λi o ho=>?_,λi j b hi hj hbi hbj=>?_,λi hi=>?_,?_,rfl,?_⟩
 ·have hlt:i<ks.length:=by rw[<-hl];exact(List.getElem?_eq_some_iff.1 ho).1
  have hi:ks[i]?=some ks[i]:=List.getElem?_eq_getElem hlt;obtain⟨o',ho',⟨hd,_⟩,hso⟩:=hs.obj hi;have ho:os'[i]?=some o:=ho;rw[ho] at ho';injection ho' with ho'
  subst ho';have hob:=h.obj _ _ hso;have hgi:=hgs hi;cases o with
  | dead=>exact True.intro
  | box cs =>
   obtain⟨b,us,t,h1,h2,h3,h4,h5,h6⟩:=hob;refine⟨b,us,t,by rw[hgi];exact h1,h2,b2c hg (by rw[r6];exact h3) (a3u hs.lowo ho),h4,h5,hX ho hd b (by rw[hgi,h1];rfl)⟩
  | row z e rows =>
   obtain⟨us,h1,h2,h3,h4⟩:=hob;refine⟨us,by rw[hgi];exact h1,h2,h3,λb hb=>?_⟩;rw[hgi] at hb;exact⟨(h4 b hb).1,(h4 b hb).2.1,hX ho hd b (by rw[hgi];exact(a0w h1).2 hb)⟩
  | mp kt es =>
   obtain⟨b,l,c,h1,h2,h3,h4,h5⟩:=hob;exact⟨b,l,c,by rw[hgi];exact h1,h2,h3,h4,hX ho hd b (by rw[hgi,h1];rfl)⟩
  | ob T vs =>
   obtain⟨b,h1,h2,h4,h5⟩:=hob;exact⟨b,by rw[hgi];exact h1,h2,h4,hX ho hd b (by rw[hgi,h1];rfl)⟩
  | it P =>
   obtain⟨A,n,cap,F,h1,h2,h3,h4⟩:=hob;exact⟨A,n,cap,F,by rw[hgi];exact h1,h2,h3,λb hb=>⟨(h4 b hb).1,(h4 b hb).2.1,hX ho hd b (by rw[hgi,h1,a0P];exact hb)⟩⟩
  | kl js=>exact absurd rfl (hs.nokl ho js)
 ·obtain⟨oi,hoi,hdi⟩:=hi;obtain⟨oj,hoj,hdj⟩:=hj;have hli:i<ks.length:=by rw[<-hl];exact(List.getElem?_eq_some_iff.1 hoi).1
  have hlj:j<ks.length:=by rw[<-hl];exact(List.getElem?_eq_some_iff.1 hoj).1
  have hi:ks[i]?=some ks[i]:=List.getElem?_eq_getElem hli;have hj:ks[j]?=some ks[j]:=List.getElem?_eq_getElem hlj
  have liv:∀ {i k:Nat},ks[i]?=some k->J1 s k:=λ{i k} h=>by
   obtain⟨o,_,hd,hso⟩:=hs.obj h;exact⟨_,hso,by cases o <;> simp_all [upO]⟩
  rw[hgs hi] at hbi;rw[hgs hj] at hbj;have:=h.dis _ _ b (liv hi) (liv hj) hbi hbj;exact a4o (a2w hs.nd) hi (by rw[this];exact hj)
 ·have hi:os'.length<=i:=hi;unfold sub;rw[List.getElem?_eq_none (by omega)]
 ·show n6 I w (sub ks g) args vs';exact b4y hg (by rw[hs.args];exact hv) hs.low
 ·refine h.tabs λb ⟨i,o,ho,hd,hb⟩=>?_
  have hlt:i<ks.length:=by rw[<-hl];exact(List.getElem?_eq_some_iff.1 ho).1
  have hi:ks[i]?=some ks[i]:=List.getElem?_eq_getElem hlt;obtain⟨o',ho',⟨hd',_⟩,hso⟩:=hs.obj hi;rw[hgs hi] at hb;exact((h.obj _ _ hso).blk (by cases o' <;> simp_all [upO]) b hb).2
def b3m:List Nat->Nat->Option Nat
 | [],_=>none
 | j::l,k=>if j=k then some 0 else (b3m l k).map (·+1)
theorem b2d:∀ {l:List Nat},l.Nodup->∀ {i k:Nat},l[i]?=some k->b3m l k=some i
 | [],_,i,k,h=>by simp at h
 | x::l,hn,i,k,h=>by
  obtain⟨h1,h2⟩:=List.nodup_cons.1 hn;rw[b3m];cases i with
  | zero=>simp at h;rw[if_pos h]
  | succ i =>
   have h3:l[i]?=some k:=by simpa using h
   rw[if_neg λe=>h1 (by rw[e];exact List.mem_of_getElem? h3),b2d h2 h3];rfl
theorem a5F:∀ {l:List Nat} {k:Nat},k∉l->b3m l k=none
 | [],_,_=>rfl
 | x::l,k,h=>by
  rw[b3m,if_neg λe=>h (by rw[e];exact List.mem_cons_self ..),a5F λhm=>h (List.mem_cons_of_mem _ hm)];rfl
theorem a3x {ks:List Nat} {n:Nat} {o:O} (h:upO ks n o≠.dead):o≠.dead:=by cases o <;> simp_all [upO]
theorem a3y {ks:List Nat} {n:Nat} {o:O} (h:o≠.dead) (hk:∀js,o≠.kl js):upO ks n o≠.dead:=by cases o <;> simp_all [upO]
theorem called (h:RelI I0 X w0 I g s a w) {ks:List Nat} {vs' vs res:List V} {os' os2:List O} {us:List Value} {w':World} {I':Nat->Nat->Prop} {g1:Nat->Value} (hs:SubOk ks vs' os' vs s)
    (h1:RelI I (Xof (sub ks g) os') ⟨w,sub ks g,os'.length,[]⟩ I' g1 ⟨res,os2⟩ { tmps:=us.toArray,defers:=[] } w'):∃g2,RelI I0 X w0 I' g2 (a0t ks os2 s) a w'/\AtV I' w' g2 (pkg us) (a0u (upT ks (o7 s.o) res))/\((∀i k,ks[i]?=some k->g1 i=g k)->RelI I0 X w0 I' g2 ⟨s.t,E1 ks (N2 ks (o7 s.o) os2) s.o⟩ a w'):=by
  have hm:=hs.len;rw[r6,J2] at hm;have hnd:=a2w hs.nd;obtain⟨n,hn⟩:∃n,n=s.o.length:=⟨_,rfl⟩
  have hklt:∀k∈ks,k<n:=λk hk=>by
    obtain⟨i,hi⟩:=List.mem_iff_getElem?.1 hk;obtain⟨o,_,_,ho⟩:=hs.obj hi;rw[hn];exact(List.getElem?_eq_some_iff.1 ho).1
  have hm2:ks.length<=os2.length:=by rw[<-hm];exact h1.lo
  obtain⟨g2,hg2⟩:∃g2:Nat->Value,g2=λk=>match b3m ks k with|some i=>g1 i|none=>if k<n then g k else g1 (ks.length+(k - n)):=⟨_,rfl⟩
  have f_in:∀ {i k:Nat},ks[i]?=some k->g2 k=g1 i:=λ{i k} hi=>by rw[hg2];simp only;rw[b2d hnd hi]
  have f_out:∀k,k∉ks->k<n->g2 k=g k:=λk hk hlt=>by rw[hg2];simp only;rw[a5F hk];simp only;rw[if_pos hlt]
  have f_new:∀d,g2 (n+d)=g1 (ks.length+d):=λd=>by
    rw[hg2];simp only;rw[a5F λhk=>by have:=hklt _ hk;omega];simp only;rw[if_neg (by omega)]
    congr 1
    omega
  have f1:∀j,g2 (upN ks n j)=g1 j:=λj=>by
    rcases Nat.lt_or_ge j ks.length with hj|hj
    · exact f_in (a5C hj)
    · rw[b0O hj,f_new]
      congr 1
      omega
  have gsub:∀ {i k:Nat},ks[i]?=some k->sub ks g i=g k:=λ{i k} h=>by unfold sub;rw[h]
  have f_ref:∀j,Q0 (g j)=true->g2 j=g j:=λj hr=>by
    by_cases hj:j∈ks
    · obtain⟨i,hi⟩:=List.mem_iff_getElem?.1 hj
      have hlt:=(List.getElem?_eq_some_iff.1 hi).1;rw[f_in hi,h1.st i (by show i<os'.length;rw[hm];exact hlt) (by show Q0 (sub ks g i)=true;rw[gsub hi];exact hr)];exact gsub hi
    · refine f_out j hj ?_
      rcases Nat.lt_or_ge j n with hlt|hge
      · exact hlt
      · rw[h.out j (by omega)] at hr;cases hr
  have xof:∀b,Xof (sub ks g) os' b->∃k,k∈ks/\J1 s k/\gbl (g k) b/\b<w.heap.size/\a1k X w0 b:=λb ⟨i,o,ho,hd,hb⟩=>by
    have hlt:i<ks.length:=by rw[<-hm];exact(List.getElem?_eq_some_iff.1 ho).1
    have hi:ks[i]?=some ks[i]:=List.getElem?_eq_getElem hlt;obtain⟨o',ho',hd',hso⟩:=hs.obj hi;rw[gsub hi] at hb;have hdd:upO ks s.o.length o'≠.dead:=a3y hd'.1 hd'.2;have:=(h.obj _ _ hso).blk hdd b hb;exact⟨ks[i],List.getElem_mem hlt,⟨_,hso,hdd⟩,hb,this.1,this.2⟩
  have mine:∀b,a1k (Xof (sub ks g) os') ⟨w,sub ks g,os'.length,[]⟩ b->a1k X w0 b:=λb hb=>by
    rcases hb with hb|hb
    · exact .inl (Nat.le_trans h.fr.size hb)
    · obtain⟨k,_,_,_,_,hM⟩:=xof b hb
      exact hM
  have hkp:A1 I w w':=h1.kp;have hII:∀b k,I b k->I' b k:=h1.im
  have hlen:(a0t ks os2 s).o.length=n+(os2.length - ks.length):=by
    show (E1 ks (N2 ks (o7 s.o) os2) (P5 ks s.o)).length=_;rw[a4n (by rw[a0U];exact hm2),J3,a0U,hn]
  have each:∀k o,(a0t ks os2 s).o[k]?=some o->(∃i o1,os2[i]?=some o1/\o=upO ks n o1/\g2 k=g1 i/\k=upN ks n i)\/(k∉ks/\k<n/\g2 k=g k/\∃o',s.o[k]?=some o'/\(o≠.dead->o'≠.dead)/\((∃cs,o'=.box cs/\o=.box (a8y ks cs))\/(∃js,o'=.kl js/\o=.kl (a5D ks js))\/(o=o'/\(∀cs,o≠.box cs)/\∀js,o≠.kl js))):=λk o hk=>by
    have hk:(E1 ks (N2 ks (o7 s.o) os2) (P5 ks s.o))[k]?=some o:=hk;rw[r6,<-hn] at hk;have hkl:∀k∈ks,k<(P5 ks s.o).length:=λk hk=>by rw[J3,<-hn];exact hklt k hk
    have hol:ks.length<=(N2 ks n os2).length:=by rw[a0U];exact hm2
    by_cases hin:k∈ks
    · obtain⟨i,hi⟩:=List.mem_iff_getElem?.1 hin
      rw[a0x hnd hkl hol hi,a1Q] at hk;obtain⟨o1,ho1,rfl⟩:=Option.map_eq_some_iff.1 hk;have hlt:=(List.getElem?_eq_some_iff.1 hi).1;have h3:=a5C (n:=n) hlt;rw[hi] at h3;exact .inl ⟨i,o1,ho1,rfl,f_in hi,Option.some.inj h3⟩
    · rcases Nat.lt_or_ge k n with hlt|hge
      · rw[a0x.backO_out hkl hol hin (by rw[J3,<-hn];exact hlt)] at hk
        exact .inr ⟨hin,hlt,f_out k hin hlt,a2X ks s.o k o hk⟩
      · obtain⟨d,rfl⟩:∃d,k=n+d:=⟨k - n,by omega⟩
        have hnl:(P5 ks s.o).length+d=n+d:=by rw[J3,<-hn]
        rw[<-hnl,a2u hol d,a1Q] at hk;obtain⟨o1,ho1,rfl⟩:=Option.map_eq_some_iff.1 hk;refine .inl ⟨ks.length+d,o1,ho1,rfl,f_new d,?_⟩;rw[b0O (by omega)];omega
  have hgm:∀k,(if k<n then g2 k else g k)≠.nilFunc->g2 k=(if k<n then g2 k else g k):=λk hk=>by
    by_cases hlt:k<n
    · rw[if_pos hlt]
    · rw[if_neg hlt] at hk
      exact absurd (h.out k (by omega)) hk
  have hk1:∀j,j∉ks->(if j<n then g2 j else g j)=g j:=λj hj=>by
    by_cases hlt:j<n
    · rw[if_pos hlt];exact f_out j hj hlt
    · rw[if_neg hlt]
  have hk2:∀j,Q0 (g j)=true->(if j<n then g2 j else g j)=g j:=λj hb=>by
    by_cases hlt:j<n
    · rw[if_pos hlt];exact f_ref j hb
    · rw[if_neg hlt]
  have f1':∀j,g1 j≠.nilFunc->g2 (upN ks n j)=g1 j:=λj _=>f1 j
  have hR:RelI I0 X w0 I' g2 (a0t ks os2 s) a w':=by
   refine⟨λb k hb=>hII _ _ (h.im b k hb),λb k hb=>⟨(h1.lt b k hb).1,λhlt=>?_⟩,⟨h1.fr.os.trans h.fr.os,h1.fr.tape.trans h.fr.tape,h1.fr.output.trans h.fr.output,Nat.le_trans h.fr.size h1.fr.size,λb hb hX=>?_⟩,h.kp.trans λb k hb i hi=>hkp b k (h.im b k hb) i hi,?_,λk hk hr=>?_,λk o hk=>?_,λj k b hj hk hbj hbk=>?_,λk hk=>?_,?_,h.dfr⟩
   · rcases (h1.lt b k hb).2 (Nat.lt_of_lt_of_le hlt h.fr.size) with h3|h3
     · exact(h.lt b k h3).2 hlt
     · obtain⟨_,_,_,_,_,hM⟩:=xof b h3
       rcases hM with hM|hM
       · omega
       · exact .inr hM
   · refine(h1.fr.block b (Nat.lt_of_lt_of_le hb h.fr.size) λhx=>?_).trans (h.fr.block b hb hX)
     obtain⟨_,_,_,_,_,hM⟩:=xof b hx
     rcases hM with hM|hM
     · omega
     · exact hX hM
   · rw[hlen]
     have:=h.lo;omega
   · have e:=h.st k hk hr
     rw[<-e] at hr ⊢;exact f_ref k hr
   · rcases each k o hk with⟨i,o1,ho1,rfl,e,_⟩|⟨hin,hlt,e,o',ho',hdd,hsh⟩
     · have hob:=h1.obj i o1 ho1
       cases o1 with
       | dead=>exact True.intro
       | box cs =>
         obtain⟨b,us,t,a1,a2,a3,a4,a5,a6⟩:=hob;exact⟨b,us,t,e.trans a1,a2,b40 f1' a3,a4,a5,mine b a6⟩
       | row z e2 rows =>
         obtain⟨us,a1,a2,a3,a4⟩:=hob;exact⟨us,by rw[e];exact a1,a2,a3,λb hb=>by rw[e] at hb;exact⟨(a4 b hb).1,(a4 b hb).2.1,mine b (a4 b hb).2.2⟩⟩
       | mp kt es =>
         obtain⟨b,l,c,a1,a2,a3,a4,a5⟩:=hob;exact⟨b,l,c,e.trans a1,a2,a3,a4,mine b a5⟩
       | ob T vs =>
         obtain⟨b,a1,a2,a4,a5⟩:=hob;exact⟨b,e.trans a1,a2,a4,mine b a5⟩
       | it P =>
         obtain⟨A,n',cap,F,a1,a2,a3,a4⟩:=hob;exact⟨A,n',cap,F,e.trans a1,a2,a3,λb hb=>⟨(a4 b hb).1,(a4 b hb).2.1,mine b (a4 b hb).2.2⟩⟩
       | kl js=>exact True.intro
     · by_cases hd:o=.dead
       · subst hd;exact True.intro
       have hd':=hdd hd;have hob:=h.obj k o' ho'
       have nox:∀b,gbl (g k) b->¬Xof (sub ks g) os' b:=λb hb hx=>by
         obtain⟨k',hk',hl',hb',_⟩:=xof b hx;exact hin (by rw[h.dis k k' b ⟨_,ho',hd'⟩ hl' hb hb'];exact hk')
       have hkeep:U4 X w0 I' w' g k o':=by
         refine hob.keep hII hkp (λb hb=>h1.fr.block b (hob.blk hd' b hb).1 (nox b hb)) λb hb k' hk'=>?_
         rcases (h1.lt b k' hk').2 (hob.blk hd' b hb).1 with h3|h3
         · exact h3
         · exact absurd h3 (nox b hb)
       rcases hsh with⟨cs,rfl,rfl⟩|⟨cs,rfl,rfl⟩|⟨rfl,hnb,hnf⟩
       · obtain⟨b,us,t,a1,a2,a3,a4⟩:=hkeep
         exact⟨b,us,t,e.trans a1,a2,(a7p ks g hk1 hk2 a3).more hgm,a4⟩
       · obtain⟨us,a1,a2,a3⟩:=hkeep
         refine⟨us,e.trans a1,a2,λj u hu=>?_⟩
         by_cases hjk:j∈ks
         · exact .inr (.inr (a2W (.inl hjk)))
         · rcases a3 j u hu with a4|a4|a4
           · exact .inl a4
           · have:=(Array.getElem?_eq_some_iff.1 hu).1
             exact .inr (.inl ((f_out j hjk (by omega)).trans a4))
           · exact .inr (.inr (a2W (.inr a4)))
       · cases o with
         | dead=>exact True.intro
         | box cs=>exact absurd rfl (hnb cs)
         | kl js=>exact absurd rfl (hnf js)
         | mp kt es =>
           obtain⟨b,l,c,a1,a2⟩:=hkeep;exact⟨b,l,c,e.trans a1,a2⟩
         | ob T vs =>
           obtain⟨b,a1,a2⟩:=hkeep;exact⟨b,e.trans a1,a2⟩
         | it P =>
           obtain⟨A,n',cap,F,a1,a2⟩:=hkeep;exact⟨A,n',cap,F,e.trans a1,a2⟩
         | row z e2 rows =>
           obtain⟨us,a1,a2,a3,a4⟩:=hkeep;exact⟨us,by rw[e];exact a1,a2,a3,by rw[e];exact a4⟩
   · obtain⟨oj,hoj,hdj⟩:=hj
     obtain⟨ok,hok,hdk⟩:=hk
     have cross:∀ {i k:Nat} {o1:O},os2[i]?=some o1->o1≠.dead->gbl (g1 i) b->k∉ks->J1 s k->¬gbl (g k) b:=λ{i k o1} ho1 hd1 hb1 hin hl hb=>by
       rcases ((h1.obj i o1 ho1).blk hd1 b hb1).2 with h3|h3
       · have h3:w.heap.size<=b:=h3
         have:=h.blk_lt hl hb;omega
       · obtain⟨k',hk',hl',hb',_⟩:=xof b h3
         exact hin (by rw[h.dis k k' b hl hl' hb hb'];exact hk')
     rcases each j oj hoj with⟨i,o1,ho1,rfl,e,eu⟩|⟨hin,hlt,e,o',ho',hdd,_⟩ <;> rcases each k ok hok with⟨i',o1',ho1',rfl,e',eu'⟩|⟨hin',hlt',e',o'',ho'',hdd',_⟩
     · rw[e] at hbj
       rw[e'] at hbk;rw[eu,eu',h1.dis i i' b ⟨_,ho1,a3x hdj⟩ ⟨_,ho1',a3x hdk⟩ hbj hbk]
     · rw[e] at hbj
       rw[e'] at hbk;exact absurd hbk (cross ho1 (a3x hdj) hbj hin' ⟨_,ho'',hdd' hdk⟩)
     · rw[e] at hbj
       rw[e'] at hbk;exact absurd hbj (cross ho1' (a3x hdk) hbk hin ⟨_,ho',hdd hdj⟩)
     · rw[e] at hbj
       rw[e'] at hbk;exact h.dis j k b ⟨_,ho',hdd hdj⟩ ⟨_,ho'',hdd' hdk⟩ hbj hbk
   · rw[hlen] at hk
     obtain⟨d,rfl⟩:∃d,k=n+d:=⟨k - n,by omega⟩;rw[f_new];exact h1.out _ (by show os2.length<=_;omega)
   · exact((a4m ks g hk1 hk2 h.tmp).more hgm).mono hII hkp

  have hpk:AtV I' w' g2 (pkg us) (a0u (upT ks (o7 s.o) res)):=by
    have h3:n6 I' w' g1 us res:=h1.tmp;rw[r6,<-hn];exact b41 (b8e f1' h3)
  refine⟨g2,hR,hpk,λhstay=>?_⟩
  have hgg:∀k,g k≠.nilFunc->g2 k=g k:=λk hk=>by
    by_cases hin:k∈ks
    · obtain⟨i,hi⟩:=List.mem_iff_getElem?.1 hin
      rw[f_in hi];exact hstay i k hi
    · rcases Nat.lt_or_ge k n with hlt|hge
      · exact f_out k hin hlt
      · exact absurd (h.out k (by omega)) hk
  have hol:ks.length<=(N2 ks n os2).length:=by rw[a0U];exact hm2
  have hkl1:∀k∈ks,k<(P5 ks s.o).length:=λk hk=>by rw[J3,<-hn];exact hklt k hk
  have hkl2:∀k∈ks,k<s.o.length:=λk hk=>by rw[<-hn];exact hklt k hk
  have hl1:(E1 ks (N2 ks n os2) s.o).length=(a0t ks os2 s).o.length:=by
    rw[hlen,a4n hol,a0U,<-hn]
  have hbk:(a0t ks os2 s).o=E1 ks (N2 ks n os2) (P5 ks s.o):=by
    show E1 ks (N2 ks (o7 s.o) os2) (P5 ks s.o)=_;rw[r6,<-hn]
  have two:∀k o,(E1 ks (N2 ks n os2) s.o)[k]?=some o->(a0t ks os2 s).o[k]?=some o\/(k∉ks/\k<n/\s.o[k]?=some o):=λk o hk=>by
    rw[hbk]
    by_cases hin:k∈ks
    · obtain⟨i,hi⟩:=List.mem_iff_getElem?.1 hin
      rw[a0x hnd hkl2 hol hi] at hk;exact .inl (by rw[a0x hnd hkl1 hol hi];exact hk)
    · rcases Nat.lt_or_ge k n with hlt|hge
      · rw[a0x.backO_out hkl2 hol hin (by rw[<-hn];exact hlt)] at hk
        exact .inr ⟨hin,hlt,hk⟩
      · obtain⟨d,rfl⟩:∃d,k=n+d:=⟨k - n,by omega⟩
        have e1:s.o.length+d=n+d:=by rw[<-hn]
        have e2:(P5 ks s.o).length+d=n+d:=by rw[J3,<-hn]
        rw[<-e1,a2u hol d] at hk;exact .inl (by rw[<-e2,a2u hol d];exact hk)
  have lv:∀k,J1 ⟨s.t,E1 ks (N2 ks n os2) s.o⟩ k->J1 (a0t ks os2 s) k:=λk ⟨o,ho,hd⟩=>by
    rcases two k o ho with h3|⟨hin,hlt,hso⟩
    · exact⟨o,h3,hd⟩
    · have hex:∃o2,(P5 ks s.o)[k]?=some o2:=⟨_,List.getElem?_eq_getElem (by rw[J3,<-hn];exact hlt)⟩
      obtain⟨o2,ho2⟩:=hex;obtain⟨o3,h4,h5,h6⟩:=a2X ks s.o k o2 ho2;rw[hso] at h4;injection h4 with h4;subst h4;refine⟨o2,by rw[hbk,a0x.backO_out hkl1 hol hin (by rw[J3,<-hn];exact hlt)];exact ho2,?_⟩
      rcases h6 with⟨cs,rfl,rfl⟩|⟨cs,rfl,rfl⟩|⟨rfl,_,_⟩
      · simp
      · simp
      · exact hd
  rw[r6,<-hn];refine⟨hR.im,hR.lt,hR.fr,hR.kp,by show w0.n<=(E1 ks (N2 ks n os2) s.o).length;rw[hl1];exact hR.lo,hR.st,λk o hk=>?_,λj k b hj hk=>hR.dis j k b (lv j hj) (lv k hk),λk hk=>hR.out k (by rw[<-hl1];exact hk),(h.tmp.more hgg).mono hII hkp,h.dfr⟩
  rcases two k o hk with h3|⟨hin,hlt,hso⟩
  · exact hR.obj k o h3
  · by_cases hd:o=.dead
    · subst hd;exact True.intro
    have hob:=h.obj k o hso
    have nox:∀b,gbl (g k) b->¬Xof (sub ks g) os' b:=λb hb hx=>by
      obtain⟨k',hk',hl',hb',_⟩:=xof b hx;exact hin (by rw[h.dis k k' b ⟨_,hso,hd⟩ hl' hb hb'];exact hk')
    have hkeep:U4 X w0 I' w' g k o:=by
      refine hob.keep hII hkp (λb hb=>h1.fr.block b (hob.blk hd b hb).1 (nox b hb)) λb hb k' hk'=>?_
      rcases (h1.lt b k' hk').2 (hob.blk hd b hb).1 with h3|h3
      · exact h3
      · exact absurd h3 (nox b hb)
    exact hkeep.more hgg
end
def b66:List O->Bool
 | []=>true
 | .kl _::_=>false
 | _::l=>b66 l
theorem a3z:∀ {l:List O},b66 l=true->∀ {i:Nat} {o:O},l[i]?=some o->∀js,o≠.kl js
 | [],_,i,o,h=>by simp at h
 | x::l,hl,i,o,h=>by
  have hl':b66 l=true/\∀js,x≠.kl js:=by cases x <;> first|cases hl|exact⟨hl,by simp⟩
  cases i with
  | zero=>simp at h;subst h;exact hl'.2
  | succ i=>exact a3z hl'.1 (by simpa using h)
structure KeepOk (n:Nat) (ks:List Nat) (res':List V) (os':List O) (res:List V) (s:S):Prop where
 nd:a55 ks=true
 len:o7 os'=G5 ks
 head:b1Z 0 n ks=true
 args:upT ks (o7 s.o) res'=res
 objs:pick ks s.o=N2 ks (o7 s.o) os'
 low:a8u (G5 ks) res'=true
 lowo:a1P (G5 ks) os'=true
 nk:b66 os'=true
theorem a9y:∀ {n j:Nat} {ks:List Nat},b1Z j n ks=true->n<=ks.length/\∀i,i<n->ks[i]?=some (j+i)
 | 0,j,ks,_=>⟨Nat.zero_le _,λi hi=>absurd hi (Nat.not_lt_zero _)⟩
 | n+1,j,[],h=>by cases h
 | n+1,j,k::ks,h=>by
  rw[b1Z] at h
  split at h
  ·rename_i e;have e:=B2.1 e;subst e;obtain⟨h1,h2⟩:=a9y h;refine⟨by simp;exact h1,λi hi=>?_⟩;cases i with
   | zero=>simp
   | succ i =>
    have:=h2 i (by omega);simp only[List.getElem?_cons_succ];rw[this]
    congr 1
    omega
  ·cases h
section
variable {I0:Nat->Nat->Prop} {X:Nat->Prop} {w0:W0} {I:Nat->Nat->Prop} {g:Nat->Value} {s:S} {a:Act} {w:World}
theorem b67 (h:RelI I0 X w0 I g s a w) (hd0:w0.d=[]) {ks:List Nat} {res' res:List V} {os':List O} {us:List Value} (hs:KeepOk w0.n ks res' os' res s) (hv:n6 I w g us res):RelI I0 X w0 I (sub ks g) ⟨res',os'⟩ { tmps:=us.toArray,defers:=[] } w:=by
 have hl:=hs.len;rw[r6,J2] at hl;obtain⟨hn1,hn2⟩:=a9y hs.head
 have hg:∀j,j<G5 ks->sub ks g j=g (upN ks (o7 s.o) j):=λj hj=>by
  rw[J2] at hj;unfold sub;rw[a5C hj]
 have hgs:∀ {i k:Nat},ks[i]?=some k->sub ks g i=g k:=λ{i k} h=>by unfold sub;rw[h]
 have hobj:∀ {i:Nat} {o:O},os'[i]?=some o->o≠.dead->∃k,ks[i]?=some k/\s.o[k]?=some (upO ks s.o.length o):=λ{i o} ho hd=>by
  have hlt:i<ks.length:=by rw[<-hl];exact(List.getElem?_eq_some_iff.1 ho).1
  have hi:ks[i]?=some ks[i]:=List.getElem?_eq_getElem hlt;refine⟨_,hi,?_⟩;have h1:=a5E (l:=s.o) hi;rw[hs.objs,a1Q,ho] at h1;have h2:=Option.some.inj h1;rw[<-r6,h2];refine A5 rfl ?_;rw[<-h2];exact a3y hd (a3z hs.nk ho)
 refine⟨h.im,h.lt,h.fr,h.kp,by show w0.n<=os'.length;omega,λk hk hr=>?_,λi o ho=>?_,λi j b hi hj hbi hbj=>?_,λi hi=>?_,?_,⟨hd0.symm,h.dfr.2⟩⟩
 ·have:=hn2 k hk;rw[Nat.zero_add] at this;rw[hgs this];exact h.st k hk hr
 ·have ho:os'[i]?=some o:=ho
  by_cases hd:o=.dead
  ·subst hd;exact True.intro
  obtain⟨k,hi,hso⟩:=hobj ho hd;have hob:=h.obj _ _ hso;have hgi:=hgs hi;cases o with
  | dead=>exact True.intro
  | box cs =>
   obtain⟨b,us,t,h1,h2,h3,h4,h5,h6⟩:=hob;exact⟨b,us,t,by rw[hgi];exact h1,h2,b2c hg (by rw[r6];exact h3) (a3u hs.lowo ho),h4,h5,h6⟩
  | row z e rows =>
   obtain⟨us,h1,h2,h3,h4⟩:=hob;exact⟨us,by rw[hgi];exact h1,h2,h3,λb hb=>by rw[hgi] at hb;exact h4 b hb⟩
  | mp kt es =>
   obtain⟨b,l,c,h1,h2⟩:=hob;exact⟨b,l,c,by rw[hgi];exact h1,h2⟩
  | ob T vs =>
   obtain⟨b,h1,h2⟩:=hob;exact⟨b,by rw[hgi];exact h1,h2⟩
  | it P =>
   obtain⟨A,n,cap,F,h1,h2⟩:=hob;exact⟨A,n,cap,F,by rw[hgi];exact h1,h2⟩
  | kl js=>exact absurd rfl (a3z hs.nk ho js)
 ·obtain⟨oi,hoi,hdi⟩:=hi;obtain⟨oj,hoj,hdj⟩:=hj;obtain⟨ki,hi,hsi⟩:=hobj hoi hdi;obtain⟨kj,hj,hsj⟩:=hobj hoj hdj;rw[hgs hi] at hbi;rw[hgs hj] at hbj;have:=h.dis _ _ b ⟨_,hsi,a3y hdi (a3z hs.nk hoi)⟩ ⟨_,hsj,a3y hdj (a3z hs.nk hoj)⟩ hbi hbj;exact a4o (a2w hs.nd) hi (by rw[this];exact hj)
 ·have hi:os'.length<=i:=hi;unfold sub;rw[List.getElem?_eq_none (by omega)]
 ·show n6 I w (sub ks g) us res';exact b4y hg (by rw[hs.args];exact hv) hs.low
end
section
variable {I0:Nat->Nat->Prop} {X:Nat->Prop} {w0:W0} {I:Nat->Nat->Prop} {g:Nat->Value} {s:S} {a:Act} {w:World}
theorem RelI.freeze (h:RelI I0 X w0 I g s a w) (k:Nat):∃I',RelI I0 X w0 I' g ⟨s.t,b85 s.o k⟩ a w/\∀b n,I b n->I' b n:=by
 unfold b85
 split
 ·rename_i z e rows hok;have hk:=A5 hok (by simp);rw[H5];obtain⟨us,h1,h2,h3,h4⟩:=h.obj k _ hk;have hlk:J1 s k:=⟨_,hk,by simp⟩;have hlt:k<s.o.length:=(List.getElem?_eq_some_iff.1 hk).1;have hgk:∀ {b},gbl (g k) b↔(g k).ownBlock=some b:=a0w h1;have hkp:A1 I w w:=A1.refl I w;refine⟨λb n=>I b n\/((g k).ownBlock=some b/\n<=rows.length * (ty e).sz),⟨λb n hb=>.inl (h.im b n hb),λb n hb=>?_,h.fr,h.kp,by simpa using h.lo,h.st,λj o hj=>?_,λi j b hi hj=>h.dis i j b (Z7 hk (by simp) hi) (Z7 hk (by simp) hj),λj hj=>h.out j (by simpa using hj),h.tmp.mono (λ_ _ h=>.inl h) hkp,h.dfr⟩,λ_ _ h=>.inl h⟩
  ·rcases hb with hb|⟨hb,_⟩
   ·exact h.lt b n hb
   ·refine⟨(h1.lt b hb).2,λhlt=>.inr ?_⟩
    rcases (h4 b hb).2.2 with hM|hM
    ·omega
    ·exact hM
  ·by_cases hjk:k=j
   ·subst hjk;simp only[List.getElem?_set_self hlt] at hj;injection hj with hj;subst hj;refine⟨us,h1,h2,h3.mono (λ_ _ h=>.inl h) hkp,λb hb=>⟨λ_=>.inr ⟨hb,Nat.le_refl _⟩,λn hn=>⟨rfl,?_⟩,(h4 b hb).2.2⟩⟩
    rcases hn with hn|⟨_,hn⟩
    ·exact((h4 b hb).2.1 n hn).2
    ·exact hn
   ·simp only[List.getElem?_set_ne hjk] at hj
    by_cases hd:o=.dead
    ·subst hd;exact True.intro
    refine(h.obj j o hj).keep (λ_ _ h=>.inl h) hkp (λ_ _=>rfl) λb hb n hn=>?_
    rcases hn with hn|⟨hn,_⟩
    ·exact hn
    ·exact absurd (h.dis k j b hlk ⟨o,hj,hd⟩ (hgk.2 hn) hb) hjk
 ·exact⟨I,h,λ_ _ h=>h⟩
theorem RelI.frz:∀(ks:List Nat) {I:Nat->Nat->Prop} {s:S},RelI I0 X w0 I g s a w->∃I',RelI I0 X w0 I' g ⟨s.t,frz ks s.o⟩ a w/\∀b n,I b n->I' b n
 | [],I,_,h=>⟨I,h,λ_ _ h=>h⟩
 | k::ks,_,_,h=>by
  obtain⟨I',h',h1⟩:=h.freeze k;obtain⟨I2,h2,h3⟩:=RelI.frz ks h';exact⟨I2,h2,λb n hb=>h3 b n (h1 b n hb)⟩
theorem Z3.frz (h:Z3 I0 X w0 s a w) (ks:List Nat):Z3 I0 X w0 ⟨s.t,Vm.frz ks s.o⟩ a w:=by
 obtain⟨I,g,h⟩:=h;obtain⟨I',h',_⟩:=RelI.frz ks h;exact⟨I',g,h'⟩
end
def E2 (s s':S):Prop:=∀(I0:Nat->Nat->Prop) (X:Nat->Prop) (w0:W0) (a:Act) (w:World),Z3 I0 X w0 s a w->Z3 I0 X w0 s' a w
def b88 (s:S) (F:S->Prop):Prop:=∀(I0:Nat->Nat->Prop) (X:Nat->Prop) (w0:W0) (a:Act) (w:World),Z3 I0 X w0 s a w->∃s',F s'/\Z3 I0 X w0 s' a w
theorem E2.refl (s:S):E2 s s:=λ_ _ _ _ _ h=>h
theorem E2.trans {s s' s2:S} (h:E2 s s') (h2:E2 s' s2):E2 s s2:=λ_ _ _ _ _ hr=>h2 _ _ _ _ _ (h _ _ _ _ _ hr)
theorem E2.frz (s:S) (ks:List Nat):E2 s ⟨s.t,Vm.frz ks s.o⟩:=λ_ _ _ _ _ hr=>hr.frz ks
def N3 (f:Nat) (vs:List V) (o:List O) (K:V->List O->List Nat->Prop):Prop:=a0T Tryz.prog f=true/\∀(I0:Nat->Nat->Prop) (X:Nat->Prop) (w0:W0) (I:Nat->Nat->Prop) (g:Nat->Value) (t:List V) (a:Act) (w:World) (us:List Value),
 RelI I0 X w0 I g ⟨t,o⟩ a w->n6 I w g us vs->Calls Tryz.prog f us.toArray w λe w'=>∃v x o' ks I' g',e=.returned v/\RelI I0 X w0 I' g' ⟨A7 ks t,o'⟩ a w'/\AtV I' w' g' v x/\K x o' ks
def a5G (f:Nat) (vs:List V) (o:List O) (x:V):Prop:=a0T Tryz.prog f=true/\∀(I0:Nat->Nat->Prop) (X:Nat->Prop) (w0:W0) (I:Nat->Nat->Prop) (g:Nat->Value) (t:List V) (a:Act) (w:World) (us:List Value),
 RelI I0 X w0 I g ⟨t,o⟩ a w->n6 I w g us vs->Calls Tryz.prog f us.toArray w λe w'=>∃v I' g',e=.returned v/\RelI I0 X w0 I' g' ⟨t,o⟩ a w'/\AtV I' w' g' v x
theorem N3.mono {f:Nat} {vs:List V} {o:List O} {K K':V->List O->List Nat->Prop} (h:N3 f vs o K) (hK:∀x o' ks,K x o' ks->K' x o' ks):N3 f vs o K' :=
 ⟨h.1,λI0 X w0 I g t a w us h1 h2=>(h.2 I0 X w0 I g t a w us h1 h2).mono λe w' ⟨v,x,o',ks,I',g',e1,e2,e3,e4⟩=>⟨v,x,o',ks,I',g',e1,e2,e3,hK _ _ _ e4⟩⟩
def a0H (f:Nat) (vs:List V) (o:List O) (K:V->List O->Prop):Prop:=a0T Tryz.prog f=true/\∀(I0:Nat->Nat->Prop) (X:Nat->Prop) (w0:W0) (I:Nat->Nat->Prop) (g:Nat->Value) (t:List V) (a:Act) (w:World) (us:List Value),
 RelI I0 X w0 I g ⟨t,o⟩ a w->n6 I w g us vs->Calls Tryz.prog f us.toArray w λe w'=>∃v x o' I' g',e=.returned v/\RelI I0 X w0 I' g' ⟨t,o'⟩ a w'/\AtV I' w' g' v x/\K x o'
theorem a0H.mono {f:Nat} {vs:List V} {o:List O} {K K':V->List O->Prop} (h:a0H f vs o K) (hK:∀x o',K x o'->K' x o'):a0H f vs o K' :=
 ⟨h.1,λI0 X w0 I g t a w us h1 h2=>(h.2 I0 X w0 I g t a w us h1 h2).mono λe w' ⟨v,x,o',I',g',e1,e2,e3,e4⟩=>⟨v,x,o',I',g',e1,e2,e3,hK _ _ e4⟩⟩
theorem N3.x {f:Nat} {vs:List V} {o:List O} {K:V->List O->Prop} (h:N3 f vs o λx o' ks=>ks=[]/\K x o'):a0H f vs o K :=
 ⟨h.1,λI0 X w0 I g t a w us h1 h2=>(h.2 I0 X w0 I g t a w us h1 h2).mono λe w' ⟨v,x,o',ks,I',g',e1,e2,e3,e4,e5⟩=>by subst e4;exact⟨v,x,o',I',g',e1,e2,e3,e5⟩⟩
theorem a5G.x {f:Nat} {vs:List V} {o:List O} {x:V} (h:a5G f vs o x):a0H f vs o λy o'=>y=x/\o'=o :=
 ⟨h.1,λI0 X w0 I g t a w us h1 h2=>(h.2 I0 X w0 I g t a w us h1 h2).mono λe w' ⟨v,I',g',e1,e2,e3⟩=>⟨v,x,o,I',g',e1,e2,e3,rfl,rfl⟩⟩
def b8f:V->Option Nat
 | .ptr k _=>some k
 | .el k _ _ _=>some k
 | _=>none
def a1n (l:List Nat) (t:List V) (o o':List O):Prop:=∀i∈l,∀k,b8f (o6 t i)=some k->y5 o' k=y5 o k
def a9z (R:S->S->Prop) (body:S->(X->S->Prop)->Prop) (s:S) (K:X->S->Prop):Prop:=∃(γ:Type) (st:γ->S) (inv:γ->Prop) (μ:γ->Nat),(∀x,inv x->o7 s.o<=o7 (st x).o)/\(∃x,R s (st x)/\inv x)/\∀x,inv x->body (st x) (λe s=>a8i (λs2=>∃y,inv y/\μ y<μ x/\R s2 (st y)) K e s)
def a1o (n:Nat) (s s':S):Prop:=∀(I0:Nat->Nat->Prop) (X:Nat->Prop) (w0:W0) (a:Act) (w:World),w0.n<=n->Z3 I0 X w0 s a w->Z3 I0 X w0 s' a w
def FW (ro:Option Nat):Fence:={ Fence.wide with round:=ro }
def j1:Ar where
 wrap:=IntKind.wrap
 add x y:=x+y
 sub x y:=x - y
 mul x y:=x * y
 quo x y:=x.tdiv y
 rem x y:=x.tmod y
 bits:=a5z
 lt x y:=decide (x<y)
 le x y:=decide (x<=y)
 eq x y:=x == y
 nz y k:=y≠0/\k
 seq x y:=x == y
 slt x y:=Op.bytesLess x y
 bytes b:=b.toList
 cat x y:=x++y
 fits x y k:=x.size+y.size<=4611686018427387904/\k
 slen b:=(b.size:Int)
 sget b n:=if 0<=n then (b[n.toNat]?).map λc=>(c.toNat:Int) else none
 ssub b l h:=if 0<=l/\l<=h/\h<=b.size then some (b.extract l.toNat h.toNat) else none
 txt:=a5i
 byt:=a52
 nat n m:=if 0<=n/\n<m then some n.toNat else none
 len rows:=(rows.length:Int)
 get rows n:=if 0<=n then rows[n.toNat]? else none
 sub2 rows l h:=if 0<=l/\l<=h/\h<=rows.length then some ((rows.drop l.toNat).take (h.toNat - l.toNat)) else none
 app xs ys:=xs++ys
 set xs n y:=xs.set n.toNat y
 room xs ys k:=xs.length+ys.length<=137438953472/\k
 mlook:=a2A
 mput:=a0E
 deq x y:=b0L y x
 rep n z k:=(0<=n/\n<=16777216/\n.toNat * z.length<=16777216)/\k (List.replicate n.toNat z)
 call f rs K:=∃q,j5 f rs q/\K q
 calld f vs o K:=∃x,a5G f vs o x/\K x
 callo f vs s K:=N3 f vs s.o λv o' ks=>K v ⟨A7 ks s.t,o'⟩
 callx f vs l s K:=a0H f vs s.o λv o'=>a1n l s.t s.o o'/\K v ⟨s.t,o'⟩
 lit _ K:=∃c,K c
 keep n Q res s:=∃ks res' os',KeepOk n ks res' os' res s/\Q res' os'
 new _ K:=∃z,K z
 next N s:=∃F:S->Prop,b88 s F/\∀s',F s'->N s'
 reg ops s K:=∀(I0:Nat->Nat->Prop) (X:Nat->Prop) (w0:W0) (a:Act) (w:World) (ro:Option Nat) (n:Nat) (Q:Exit->Act->World->Prop),(∀o∈ops.toList,Z8 Tryz.prog o.op=true)->Z3 I0 X w0 s a w->(∀s' a' w',Z3 I0 X w0 s' a' w'->K s'->Q .normal a' w')->wpAnyIn (FW ro) n Tryz.prog .any ops Q ops.size (Array.replicate ops.size false) a w
 ext op dst s K:=∀(I0:Nat->Nat->Prop) (X:Nat->Prop) (w0:W0) (a:Act) (w:World) (o:Oper) (Q:Exit->Act->World->Prop),o.op=op->o.dst=dst->Z8 Tryz.prog op=true->Z3 I0 X w0 s a w->o.wp Tryz.prog a w (λa' w'=>∃s',Z3 I0 X w0 s' a' w'/\K s') Q
 loop _ body s K:=a9z weak body s K\/a9z Eq body s K\/a9z (a1o (o7 s.o)) body s K
theorem a5H {f:Nat} {vs:List V} {o:List O} {rs q:List R} (h:j5 f rs q) (hr:a7b o vs=some rs):N3 f vs o λx o' ks=>x=b3g q/\o'=o/\ks=[] :=
 ⟨h.1,λI0 X w0 I g t a w us hrel hv=>by
  refine(h.2 I w us hrel.wld (a8t hrel hv hr)).mono ?_
  rintro e w' ⟨v,rfl,hres,hbel⟩
  exact⟨v,_,o,[],_,g,rfl,hrel.grow hbel (I':=nxt I w w') (λ_ _ h=>.inl h) (λ_ _ h=>h),b2b g hres,rfl,rfl,rfl⟩⟩
def K3 (f:Nat) (vs:List V) (os:List O) (Q:List V->List O->Prop):Prop:=a0T Tryz.prog f=true/\∀(I:Nat->Nat->Prop) (w:World) (g:Nat->Value) (args:List Value),
 RelI I (Xof g os) ⟨w,g,os.length,[]⟩ I g ⟨vs,os⟩ { tmps:=args.toArray,defers:=[] } w ->
 Calls Tryz.prog f args.toArray w λe w'=>∃us res os2 I' g',e=.returned (pkg us)/\(Q res os2/\∀i,i<os.length->g' i=g i)/\RelI I (Xof g os) ⟨w,g,os.length,[]⟩ I' g' ⟨res,os2⟩ { tmps:=us.toArray,defers:=[] } w'
theorem a1R {f:Nat} {vs vs':List V} {os':List O} {s:S} {ks:List Nat} {Q:List V->List O->Prop} (h:K3 f vs' os' Q) (hs:SubOk ks vs' os' vs s):N3 f vs s.o λx o' ks'=>ks'=[]/\∃res os2,Q res os2/\x=a0u (upT ks (o7 s.o) res)/\o'=E1 ks (N2 ks (o7 s.o) os2) s.o :=
 ⟨h.1,λI0 X w0 I g t a w us hrel hv=>by
  have hs':SubOk ks vs' os' vs ⟨t,s.o⟩:=⟨hs.nd,hs.len,hs.args,hs.objs,hs.al,hs.low,hs.lowo⟩;refine(h.2 I w (sub ks g) us (b42 hrel hs' hv)).mono ?_
  rintro e w' ⟨us2,res,os2,I',g1,rfl,⟨hQ,hst⟩,h1⟩
  obtain⟨g2,-,h3,h4⟩:=called hrel hs' h1;have hm:=hs.len;rw[r6,J2] at hm
  exact⟨_,_,_,[],I',g2,rfl,h4 λi k hi=>by
   have hlt:=(List.getElem?_eq_some_iff.1 hi).1;rw[hst i (by omega)];unfold sub
   rw[hi],h3,rfl,res,os2,hQ,rfl,rfl⟩⟩
theorem a90 {f:Nat} {vs vs':List V} {os':List O} {s:S} {ks:List Nat} {Q:List V->List O->Prop} (h:B0 f vs' os' Q) (hs:SubOk ks vs' os' vs s):N3 f vs s.o λx o' ks'=>ks'=ks/\∃res os2,Q res os2/\x=a0u (upT ks (o7 s.o) res)/\o'=E1 ks (N2 ks (o7 s.o) os2) (P5 ks s.o) :=
 ⟨h.1,λI0 X w0 I g t a w us hrel hv=>by
  have hs':SubOk ks vs' os' vs ⟨t,s.o⟩:=⟨hs.nd,hs.len,hs.args,hs.objs,hs.al,hs.low,hs.lowo⟩;refine(h.2 I w (sub ks g) us (b42 hrel hs' hv)).mono ?_
  rintro e w' ⟨us2,res,os2,I',g1,rfl,hQ,h1⟩
  obtain⟨g2,h2,h3,-⟩:=called hrel hs' h1
  exact⟨_,_,_,ks,I',g2,rfl,h2,h3,rfl,res,os2,hQ,rfl,rfl⟩⟩
end
section
section
variable {I0:Nat->Nat->Prop} {X:Nat->Prop} {w0:W0} {I:Nat->Nat->Prop} {g:Nat->Value} {s:S} {a:Act} {w:World}
theorem b2e {v:Value} {x:V} (h:AtV I w g v x) (h1:b3f x=true):v.oneCell'=true:=by
 cases h with
 | d h=>exact h.one
 | ag=>cases h1
 | tu=>cases h1
 | em=>rfl
 | own=>rfl
 | ptr=>rfl
 | cl=>rfl
 | el=>rfl
 | ro=>rfl
 | mp=>rfl
 | bs=>rfl
 | jk=>cases h1
theorem a8z:∀ {l:List V} {us:List Value},n6 I w g us l->a1F l=true->∀u∈us,u.oneCell'=true
 | [],us,h,_=>by rw[h.unnil];simp
 | x::l,us,h,h1=>by
  obtain⟨u,us',rfl,h2,h3⟩:=h.uncons;rw[a1F] at h1
  split at h1
  ·rename_i hx;intro y hy
   rcases List.mem_cons.1 hy with rfl|hy
   ·exact b2e h2 hx
   ·exact a8z h3 h1 y hy
  ·cases h1
theorem a30 {v:Value} {x:V} {cs:List V} (h:AtV I w g v x) (hc:a0r x=some cs):∃us,v.cells=us.toArray/\n6 I w g us cs/\∀u∈us,u.oneCell'=true:=by
 have single:b3f x=true->cs=[x]->∃us,v.cells=us.toArray/\n6 I w g us cs/\∀u∈us,u.oneCell'=true:=λh1 e=>by
  subst e;have hv:=b2e h h1;refine⟨[v],?_,.cons h (.nil I w g),λu hu=>by simp at hu;subst hu;exact hv⟩;cases v <;> first|rfl|cases hv
 cases x with
 | ag l =>
  rw[a0r] at hc
  split at hc
  ·rename_i h1;injection hc with hc;subst hc;obtain⟨us,rfl,h2⟩:=h.unag;exact⟨us,rfl,h2,a8z h2 h1⟩
  ·cases hc
 | jk=>cases hc
 | tu l=>cases hc
 | d x=>injection hc with hc;exact single rfl hc.symm
 | em=>injection hc with hc;exact single rfl hc.symm
 | bs k n=>injection hc with hc;exact single rfl hc.symm
 | own k=>injection hc with hc;exact single rfl hc.symm
 | ptr k off=>injection hc with hc;exact single rfl hc.symm
 | cl f ks=>injection hc with hc;exact single rfl hc.symm
 | el k i sz off=>injection hc with hc;exact single rfl hc.symm
 | ro l off=>injection hc with hc;exact single rfl hc.symm
 | mp k=>injection hc with hc;exact single rfl hc.symm
def Yld (I0:Nat->Nat->Prop) (X:Nat->Prop) (w0:W0) (g:Nat->Value) (s:S) (a:Act) (w:World) (m:Sem Value) (K:V->Prop):Prop:=∃v x w' I',m.run Tryz.prog w=.ok v w'/\RelI I0 X w0 I' g s a w'/\AtV I' w' g v x/\K x
theorem Y5 {m:Sem Value} {K:V->Prop} (h:RelI I0 X w0 I g s a w) {v:Value} {x:V} (hm:m.run Tryz.prog w=.ok v w) (hv:AtV I w g v x) (hK:K x):Yld I0 X w0 g s a w m K:=⟨v,x,w,I,hm,h,hv,hK⟩
theorem atb (b:Bool):AtV I w g (.bool b) (vb b):=.d (.sc _ rfl)
theorem ati (k:IntKind) (n:Int):AtV I w g (.int k n) (vi k n):=.d (.sc _ rfl)
theorem ats (b:ByteArray):AtV I w g (.string b) (vs b):=.d (.sc _ rfl)
theorem AtV.sc {v u:Value} (h:AtV I w g v (.d (.sc u))):v=u:=by cases h with|d h=>cases h;rfl
theorem b0P {rows:List (List D)} {i:Int} {row:List D} (h:j1.get rows i=some row):0<=i/\rows[i.toNat]?=some row:=by
 simp only[j1] at h
 split at h
 ·exact⟨by assumption,h⟩
 ·cases h
theorem a4p (h:RelI I0 X w0 I g s a w) {K:V->Prop} {t:Nat} (ht:j6 t=true) {v:Value} {x:V} (hv:AtV I w g v x) (hK:E0 j1 s.o K t x):∃u y,(Instr.loadAt t v).run Tryz.prog w=.ok u w/\AtV I w g u y/\K y:=by
 cases x <;> try exact hK.elim
 case ptr k off =>
  simp only[E0] at hK
  split at hK <;> try exact hK.elim
  rename_i cs ho
  split at hK <;> try exact hK.elim
  rename_i l hl
  split at hK <;> try exact hK.elim
  rename_i x hx;obtain⟨b,us,t',h1,h2,h3,_⟩:=h.obj k _ (A5 ho (by simp));cases hv with
  | ptr k off b' hg =>
   rw[h1] at hg;injection hg with hg;injection hg with hg;injection hg with hg;subst hg;rw[Z5] at hl;obtain⟨e,he⟩:=Z6 hl;have hu:n6 I w g ((us.drop off).take (ty t).sz) l:=by rw[e];exact(h3.drop off).take _
   obtain⟨v,h4,h5⟩:=a8q (w:=w) (b:=b) (p:=off) ht (by rw[hu.1,he]) (λj u hj=>by
    rw[List.getElem?_take] at hj
    split at hj
    ·rw[List.getElem?_drop] at hj;rw[cell_of_row w b (off+j) (us++t'.2).toArray t'.1 (0,0) h2];have hlt:=(List.getElem?_eq_some_iff.1 hj).1;simp only[List.getElem?_toArray];rw[List.getElem?_append_left hlt];exact hj
    ·cases hj) hu hx
   exact⟨v,x,h4,h5,hK⟩
 case ro cs off =>
  simp only[E0] at hK
  split at hK <;> try exact hK.elim
  rename_i l hl
  split at hK <;> try exact hK.elim
  rename_i x hx;cases hv with
  | ro b o off us cs hI hc hd =>
   rw[Z5] at hl;obtain⟨e,he⟩:=Z6 hl;have hu:A8 I w ((us.drop off).take (ty t).sz) l:=by rw[e];exact(hd.drop off).take _
   obtain⟨v,h4,h5⟩:=a8q (w:=w) (b:=b) (p:=o+off) ht (by rw[hu.1,he]) (λj u hj=>by
    rw[List.getElem?_take] at hj
    split at hj
    ·rw[List.getElem?_drop] at hj;rw[Nat.add_assoc];exact hc _ _ hj
    ·cases hj) (hu.toV g) hx
   exact⟨v,x,h4,h5,hK⟩
 case el k i sz off =>
  simp only[E0] at hK
  split at hK <;> try exact hK.elim
  rename_i z e rows ho
  split at hK <;> try exact hK.elim
  rename_i hsz;rw[B2] at hsz
  split at hK <;> try exact hK.elim
  rename_i row hrow
  split at hK <;> try exact hK.elim
  rename_i l hl
  split at hK <;> try exact hK.elim
  rename_i x hx;obtain⟨us,h1,h2,h3,_⟩:=h.obj k _ (A5 ho (by simp));have hrow':=b0P hrow;cases hv with
  | el k i sz off b n cap hg =>
   rw[hg] at h1;obtain⟨A',cap',e0⟩:=L9 h1;injection e0 with _ e0 _;subst e0;rw[Z5] at hl;obtain⟨e1,he⟩:=Z6 hl;have hrl:=h2 _ (List.mem_of_getElem? hrow'.2);have hlt:i.toNat<rows.length:=(List.getElem?_eq_some_iff.1 hrow'.2).1
   have hfit:off+(ty t).sz<=(ty e).sz\/(ty t).sz=0:=by
    rw[e1,List.length_take,List.length_drop,hrl] at he;omega
   have hsub:i.toNat * (ty e).sz+(ty e).sz<=rows.length * (ty e).sz:=by rw[<-Nat.succ_mul];exact Nat.mul_le_mul_right _ hlt
   rw[<-hsz]
   have hu:A8 I w ((us.drop (i.toNat * (ty e).sz+off)).take (ty t).sz) l:=by
    refine⟨by rw[List.length_take,List.length_drop,h1.1,he];omega,λj u d hj hd=>?_⟩;rw[List.getElem?_take] at hj
    split at hj
    ·rename_i hjl;rw[List.getElem?_drop,Nat.add_assoc] at hj;refine h3.2 _ _ _ hj ?_;rw[Z2 h2 hrow'.2 (by omega)];rw[e1,List.getElem?_take,if_pos hjl,List.getElem?_drop] at hd;exact hd
    ·cases hj
   obtain⟨v,h4,h5⟩:=a8q (w:=w) (b:=b) (p:=i.toNat * (ty e).sz+off) ht (by rw[hu.1,he]) (λj u hj=>by
    rw[List.getElem?_take] at hj
    split at hj
    ·rename_i hjl;rw[List.getElem?_drop] at hj;have hin:i.toNat * (ty e).sz+off+j<rows.length * (ty e).sz:=by omega
     rw[World.ownsRow.cellAt h1 _ hin];exact hj
    ·cases hj) (hu.toV g) hx
   exact⟨v,x,h4,h5,hK⟩
theorem b68 (h:RelI I0 X w0 I g s a w) {K:V->Prop} {t:Nat} (ht:j6 t=true) {v:Value} {x:V} (hv:AtV I w g v x) (hK:E0 j1 s.o K t x):Yld I0 X w0 g s a w (Instr.loadAt t v) K:=by
 obtain⟨u,y,h1,h2,h3⟩:=a4p h ht hv hK;exact Y5 h h1 h2 h3
theorem b43 (h:RelI I0 X w0 I g s a w) {K:V->Prop} {t i:Nat} (ht:j6 t=true) {v:Value} {x:V} (hv:AtV I w g v x) (hK:N1 K t i x):Yld I0 X w0 g s a w (Instr.fieldAt t v i) K:=by
 simp only[N1] at hK
 split at hK <;> try exact hK.elim
 rename_i off sz hf;obtain⟨fs,f,h1,h2,h3,h4,_⟩:=b4w ht (a0S hf)
 have hs:(sizeOf f.type).run Tryz.prog w=.ok (sz+1) w:=by
  cases hi:Tryz.prog.info? f.type with
  | none=>rw[hi] at h4;cases h4
  | some i=>rw[hi] at h4;simp only[Option.map_some,Option.some.injEq] at h4;simp[sizeOf,typeInfo,hi,h4]
 have key:∀b p,(Instr.fieldAt t (.pointer (some ⟨b,p,none⟩)) i).run Tryz.prog w=.ok (.pointer (some ⟨b,p+off,none⟩)) w:=λb p=>by
  simp[Instr.fieldAt,run_underlying h1,h2,Instr.sureAddr,fieldPlace,hs,Addr.add_lit,h3]
 cases x <;> try exact hK.elim
 case ptr k o =>
  cases hv with
  | ptr k o b hg=>exact Y5 h (key b o) (.ptr k (o+off) b hg) hK
 case el k i sz o =>
  cases hv with
  | el k i sz o b n cap hg=>exact Y5 h (key b _) (by rw[Nat.add_assoc];exact .el k i sz (o+off) b n cap hg) hK
 case ro cs o =>
  cases hv with
  | ro b o' off' us cs hI hc hd=>exact Y5 h (key b _) (by rw[Nat.add_assoc];exact .ro b o' (o+off) us cs hI hc hd) hK
theorem b69 (h:RelI I0 X w0 I g s a w) {K:V->Prop} {t i:Nat} (ht:j6 t=true) (hty:∀u,(ty t).fty[i]?=some u->j6 u=true) {v:Value} {x:V} (hv:AtV I w g v x) (hK:a9q K t i x):Yld I0 X w0 g s a w (Instr.field t v i) K:=by
 simp only[a9q] at hK
 split at hK <;> try exact hK.elim
 rename_i u off sz cs hu hf
 split at hK <;> try exact hK.elim
 rename_i l hl
 split at hK <;> try exact hK.elim
 rename_i y hy;obtain⟨fs,f,h1,h2,h3,h4,h5,_⟩:=b4w ht (a0S hf);have h6:=a0S hu;rw[h5] at h6;injection h6 with h6;subst h6;have hku:=hty _ h5;obtain⟨us,rfl,h7⟩:=hv.unag;rw[Z5] at hl;obtain⟨e,he⟩:=Z6 hl;have hul:n6 I w g ((us.drop off).take (ty f.type).sz) l:=by rw[e];exact(h7.drop off).take _
 obtain⟨hx,hone⟩:=a8p hul hy;refine Y5 h ?_ hx hK;simp only[Instr.field,Sem.run_bind,run_underlying h1,Result.andThen_ok,h2,asAgg,Sem.run_pure,part,a8o hku,h3];cases hag:(ty f.type).agg with
 | true =>
  have hsz:=L3 hku w
  simp[hsz]
 | false =>
  have hlen:=hone hag;simp only[Bool.false_eq_true,if_false]
  have hlt:off<us.length:=by
   rw[List.length_take,List.length_drop] at hlen;omega
  have:us.toArray[off]?=some (((us.drop off).take (ty f.type).sz).getD 0 undef):=by
   simp only[List.getElem?_toArray,List.getD_eq_getElem?_getD,List.getElem?_take,List.getElem?_drop,Nat.add_zero];have hsz:0<(ty f.type).sz:=by rw[List.length_take] at hlen;omega
   rw[if_pos hsz,List.getElem?_eq_getElem hlt];rfl
  rw[this];rfl
theorem a80 (h:RelI I0 X w0 I g s a w) {v:Value} {x:V} {o:Option Nat} {rows:List (List D)} (hv:AtV I w g v x) (hr:J9 s.o x=some (o,rows)):AtD I w v (.sl (o.getD 0) rows)/\(o=none->rows=[]):=by
 cases x with
 | d x =>
  cases x with
  | sc u=>simp[J9] at hr
  | sl sz rows' =>
   simp only[J9,Option.some.injEq,Prod.mk.injEq] at hr;obtain⟨rfl,rfl⟩:=hr;cases hv with
   | d h=>exact⟨h,by simp⟩
 | em =>
  simp only[J9,Option.some.injEq,Prod.mk.injEq] at hr;obtain⟨rfl,rfl⟩:=hr;cases hv;exact⟨.nil _ _ _,λ_=>rfl⟩
 | own k =>
  have hr':=hr;simp only[J9] at hr
  split at hr
  ·rename_i e rows' ho;simp only[Option.some.injEq,Prod.mk.injEq] at hr;obtain⟨rfl,rfl⟩:=hr;refine⟨a8s h hv ?_,by simp⟩;simp only[toD,ho];rfl
  ·cases hr
 | ag cs=>simp[J9] at hr
 | tu cs=>simp[J9] at hr
 | ptr k off=>simp[J9] at hr
 | cl f ks=>simp[J9] at hr
 | el k i sz off=>simp[J9] at hr
 | ro cs off=>simp[J9] at hr
 | mp k=>simp[J9] at hr
 | bs k n=>simp[J9] at hr
 | jk=>simp[J9] at hr
theorem b2f {sz:Nat} {o:Option Nat} {v:Value} {rows:List (List D)} (hs:b64 sz o=true) (h:AtD I w v (.sl (o.getD 0) rows)) (hn:o=none->rows=[]):AtD I w v (.sl sz rows):=by
 cases o with
 | none =>
  rw[hn rfl] at h ⊢;obtain⟨A,cap,rfl,-⟩:=h.slice;exact .nil _ _ _
 | some n =>
  rw[b64,B2] at hs;subst hs;exact h
theorem b44 (h:RelI I0 X w0 I g s a w) {K:V->Prop} {t:Nat} (ht:j6 t=true) (hte:∀e,(ty t).elem=some e->j6 e=true) (htv:(ty t).kind=.array->∀e,(ty t).val=some e->j6 e=true) {v u:Value} {x i:V} (hv:AtV I w g v x) (hu:AtV I w g u i) (hK:s9 j1 s.o K t x i):Yld I0 X w0 g s a w (Instr.indexAt t v u) K:=by
 simp only[s9] at hK
 split at hK <;> try exact hK.elim
 rename_i k n
 split at hK
 ·rename_i hkd
  split at hK <;> try exact hK.elim
  rename_i e he
  split at hK <;> try exact hK.elim
  rename_i j hj;have hun:=a58 ht hkd he;have hu':=hu.sc;subst hu'
  have hn:(0<=n/\n<((ty t).alen:Int))/\n.toNat=j:=by
   simp only[j1] at hj
   split at hj
   ·rename_i h1;injection hj with hj;exact⟨h1,hj⟩
   ·cases hj
  obtain⟨hn,rfl⟩:=hn
  have key:∀b p,(Instr.indexAt t (.pointer (some ⟨b,p,none⟩)) (.int k n)).run Tryz.prog w=.ok (.pointer (some ⟨b,p+n.toNat * (ty e).sz,none⟩)) w:=λb p=>by
   simp[Instr.indexAt,asIntOf,run_underlying hun,hn,Instr.sureAddr,L3 (htv hkd e he),Addr.add_lit]
  cases x <;> try exact hK.elim
  case ptr k' o =>
   cases hv with
   | ptr k' o b hg=>exact Y5 h (key b o) (.ptr k' _ b hg) hK
  case el k' i sz o =>
   cases hv with
   | el k' i sz o b n' cap hg=>exact Y5 h (key b _) (by rw[Nat.add_assoc];exact .el k' i sz _ b n' cap hg) hK
  case ro cs o =>
   cases hv with
   | ro b o' off' us cs hI hc hd=>exact Y5 h (key b _) (by rw[Nat.add_assoc];exact .ro b o' _ us cs hI hc hd) hK
 split at hK <;> try exact hK.elim
 rename_i e he
 split at hK
 ·rename_i k' m hbs
  split at hK <;> try exact hK.elim
  rename_i j hj
  have hx:x=.bs k' m:=by
   unfold bsV at hbs
   split at hbs
   ·injection hbs with hbs;injection hbs with e1 e2;rw[e1,e2]
   ·cases hbs
  subst hx;obtain⟨b,cap,hg,rfl,hle⟩:=hv.unbs;have hu':=hu.sc;subst hu'
  have hn:(0<=n/\n<(m:Int))/\n.toNat=j:=by
   simp only[j1] at hj
   split at hj
   ·rename_i h1;injection hj with hj;exact⟨h1,hj⟩
   ·cases hj
  obtain⟨hn,rfl⟩:=hn;have hun:=H7 ht he;refine Y5 h (v:=.pointer (some ⟨b,n.toNat * (ty e).sz,none⟩)) ?_ (.ptr k' _ b hg) hK
  simp[Instr.indexAt,asIntOf,run_underlying hun,hn,L3 (hte e he),Addr.add_lit]
 split at hK
 ·rename_i k' e' rows hr
  split at hK <;> try exact hK.elim
  rename_i hee;rw[B2] at hee;subst hee
  split at hK <;> try exact hK.elim
  rename_i row hrow;have hrow':=b0P hrow;have hu':=hu.sc;subst hu';unfold a5d at hr
  split at hr <;> try cases hr
  rename_i k1
  split at hr <;> cases hr
  rename_i ho;obtain⟨us,h1,h2,h3,_⟩:=h.obj k' _ (A5 ho (by simp));obtain⟨rfl,A,m,cap,hg⟩:=hv.unown;rw[a1O h1] at hg ⊢;have hlt:n.toNat<rows.length:=(List.getElem?_eq_some_iff.1 hrow'.2).1;have hn:0<=n/\n<(rows.length:Int):=⟨hrow'.1,by omega⟩;have hun:=H7 ht he
  rcases h1.2 with⟨_,e2⟩|⟨b,cap',cur,e1,_⟩
  ·omega
  ·refine Y5 h (v:=.pointer (some ⟨b,n.toNat * (ty e').sz+0,none⟩)) ?_ (.el k' n (ty e').sz 0 b _ cap' e1) hK;rw[e1]
   simp[Instr.indexAt,asIntOf,run_underlying hun,hn,L3 (hte e' he),Addr.add_lit]
 split at hK <;> try exact hK.elim
 rename_i sz rows hr
 split at hK <;> try exact hK.elim
 rename_i hsz;rw[B2] at hsz;subst hsz
 split at hK <;> try exact hK.elim
 rename_i row hrow;obtain⟨h1,_⟩:=a80 h hv hr;simp only[Option.getD_some] at h1
 have hrow':0<=n/\rows[n.toNat]?=some row:=by
  simp only[j1] at hrow
  split at hrow
  ·exact⟨by assumption,hrow⟩
  ·cases hrow
 have hu':=hu.sc;subst hu';have hlt:n.toNat<rows.length:=(List.getElem?_eq_some_iff.1 hrow'.2).1;obtain⟨A,cap,rfl,hcap,h2⟩:=h1.slice
 rcases h2 with rfl|⟨b,off,us,rfl,hI,hrl,hl,hc,hd⟩
 ·simp at hlt
 ·have hn:0<=n/\n<(rows.length:Int):=⟨hrow'.1,by omega⟩;have hun:=H7 ht he;have hrsz:=hrl _ (List.mem_of_getElem? hrow'.2);refine Y5 h (v:=.pointer (some ⟨b,off+n.toNat * (ty e).sz,none⟩)) ?_ (.ro b (off+n.toNat * (ty e).sz) 0 ((us.drop (n.toNat * (ty e).sz)).take (ty e).sz) row ?_ (λj y hy=>?_) ⟨?_,λj y d hy hdj=>?_⟩) hK
  ·simp[Instr.indexAt,asIntOf,run_underlying hun,hn,L3 (hte e he),Addr.add_lit]
  ·refine hI.down ?_;rw[hrsz];have:n.toNat * (ty e).sz+(ty e).sz<=rows.length * (ty e).sz:=by rw[<-Nat.succ_mul];exact Nat.mul_le_mul_right _ hlt
   omega
  ·rw[List.getElem?_take] at hy
   split at hy
   ·rw[List.getElem?_drop] at hy;rw[Nat.add_assoc];exact hc _ _ hy
   ·cases hy
  ·rw[List.length_take,List.length_drop,hl,hrsz];have:n.toNat * (ty e).sz+(ty e).sz<=rows.length * (ty e).sz:=by rw[<-Nat.succ_mul];exact Nat.mul_le_mul_right _ hlt
   omega
  ·rw[List.getElem?_take] at hy
   split at hy
   ·rename_i hj;rw[List.getElem?_drop] at hy;exact hd.2 _ _ _ hy (by rw[Z2 hrl hrow'.2 hj];exact hdj)
   ·cases hy
end
end
section
theorem a5J {j k:IntKind} (h:keq j k=true):j=k:=by cases j <;> cases k <;> first|rfl|cases h
theorem a0I (b c:Bool):bEq b c=(b == c):=by cases b <;> cases c <;> rfl
theorem a91 {t:Nat} (h:j6 t=true) {d:TypeDesc} (hu:Tryz.prog.underlying t=some d) (hd:a9m (some d)=some false):(ty t).agg=false:=by
 have:=(a29 t h).agg;rw[hu,hd] at this;exact(Option.some.inj this).symm
def J4:D->Value
 | .sc v=>v
 | .sl _ _=>.nilFunc
def a0h:R->Value
 | .one d=>J4 d
 | .ag ds=>.agg (ds.map J4).toArray
theorem a7q {k:TK} {d:D} (h:Y4 k d=true):∃v,d=.sc v:=by
 cases d with
 | sc v=>exact⟨v,rfl⟩
 | sl sz rows=>cases k <;> cases h
theorem a5K:∀ {us:List Nat} {fs:List (Nat×Nat)} {n:Nat} {ds:List D},N5 us fs n ds=true->∀d∈ds,∃v,d=.sc v
 | [],[],n,[],_=>by simp
 | u::us,(off,1)::fs,n,d::ds,h=>by
  rw[N5] at h
  split at h
  ·split at h
   ·rename_i h1;intro x hx
    rcases List.mem_cons.1 hx with rfl|hx
    ·exact a7q h1
    ·exact a5K h x hx
   ·cases h
  ·cases h
theorem b89 {t:Nat} {r:R} (h:a1A t r=true):(∃v,r=.one (.sc v))\/∃ds,r=.ag ds/\∀d∈ds,∃v,d=.sc v:=by
 cases r with
 | one d=>obtain⟨v,rfl⟩:=a7q h;exact .inl ⟨v,rfl⟩
 | ag ds =>
  rw[a1A] at h
  split at h
  ·split at h
   ·exact .inr ⟨ds,rfl,a5K h⟩
   ·cases h
  ·cases h
section
variable {I:Nat->Nat->Prop} {w:World}
theorem AtD.val {v:Value} {u:Value} (h:AtD I w v (.sc u)):v=u:=by cases h;rfl
theorem a2x {t:Nat} {v:Value} {r:R} (h:AtR I w v r) (hk:a1A t r=true):v=a0h r:=by
 rcases b89 hk with⟨u,rfl⟩|⟨ds,rfl,hs⟩
 ·exact AtD.val h
 ·obtain⟨us,rfl,hl,hd⟩:=h
  have:us=ds.map J4:=by
   refine List.ext_getElem? λi=>?_
   rw[List.getElem?_map];cases hi:ds[i]? with
   | none =>
    rw[List.getElem?_eq_none_iff] at hi;rw[List.getElem?_eq_none (by omega)];rfl
   | some d =>
    have hlt:i<us.length:=by rw[hl];exact(List.getElem?_eq_some_iff.1 hi).1
    obtain⟨u,rfl⟩:=hs d (List.mem_of_getElem? hi);rw[List.getElem?_eq_getElem hlt];exact congrArg some (hd i _ _ (List.getElem?_eq_getElem hlt) hi).val
  rw[this];rfl
end
theorem a92 (m n:Nat):b1W m n=(m == n):=by
 rw[Bool.eq_iff_iff,beq_iff_eq];exact⟨Nat.eq_of_beq_eq_true,λh=>by rw[h];exact Nat.beq_refl n⟩
theorem a32 (m n:Int):b4h m n=(m == n):=by
 rw[Bool.eq_iff_iff,beq_iff_eq];cases m <;> cases n <;> simp[b4h,a92]
 exact Int.ofNat_inj.symm
theorem a1p:∀x y:List UInt8,a5h x y=(x == y)
 | [],[]=>rfl
 | [],_::_=>rfl
 | _::_,[]=>rfl
 | x::l,y::m=>by
  rw[a5h,a92,a1p l m]
  by_cases h:x=y
  ·subst h;simp
  ·have h1:(x.toNat == y.toNat)=false:=beq_eq_false_iff_ne.2 λe=>h (UInt8.toNat_inj.1 e)
   have h2:(x::l == y::m)=false:=beq_eq_false_iff_ne.2 λe=>h (by injection e)
   rw[h1,h2]
theorem a5L (x y:ByteArray):(x == y)=(x.data.toList == y.data.toList):=by
 rw[beq_toListBytes,ByteArray.toList_eq,ByteArray.toList_eq]
structure ScalOk (t:Nat) (x y:D) (d:TypeDesc):Prop where
 un:Tryz.prog.underlying t=some d
 ag:a9m (some d)=some false
 now:Instr.sameNow d (J4 x) (J4 y)=some (dEq y x)
 eq:∀(n:Nat) (w:World),(Op.equalIn (n+1) t (J4 x) (J4 y)).run Tryz.prog w=.ok (dEq y x) w
 chk:∀(e:Bool) (n:Nat) (w:World),(Instr.checkKey e (n+1) t (J4 x)).run Tryz.prog w=.ok () w
 bits:∀n,Instr.sameBits n (J4 x) (J4 x)=true
theorem a33 {k:TK} {d:D} (h:Y4 k d=true):(∃q m,k=.int q/\d=.sc (.int q m))\/(∃s,k=.str/\d=.sc (.string s))\/∃b,k=.bool/\d=.sc (.bool b):=by
 unfold Y4 at h
 split at h
 ·rename_i q q' m;obtain rfl:=a5J h;exact .inl ⟨_,m,rfl,rfl⟩
 ·exact .inr (.inl ⟨_,rfl,rfl⟩)
 ·exact .inr (.inr ⟨_,rfl,rfl⟩)
 ·cases h
theorem a2y {t:Nat} (ht:j6 t=true) {x y:D} (hx:Y4 (ty t).kind x=true) (hy:Y4 (ty t).kind y=true):∃d,ScalOk t x y d:=by
 rcases a33 hx with⟨q,m,hk,rfl⟩|⟨m,hk,rfl⟩|⟨m,hk,rfl⟩ <;> rcases a33 hy with⟨q',n,hk',rfl⟩|⟨n,hk',rfl⟩|⟨n,hk',rfl⟩ <;> rw[hk] at hk' <;> first|cases hk';done|skip
 ·injection hk' with hk'
  subst hk';have hu:=a57 ht hk;refine⟨_,hu,rfl,?_,λn w=>?_,λe n w=>?_,λn=>?_⟩
  ·simp only[Instr.sameNow,J4,dEq,a32,if_true];rw[BEq.comm]
  ·simp only[Op.equalIn,run_underlying hu,J4,dEq,a32,Sem.run_bind,Result.andThen_ok,if_true,Sem.run_pure];rw[BEq.comm]
  ·simp[Instr.checkKey,run_underlying hu,J4]
  ·cases n <;> simp[Instr.sameBits,J4]
 ·have hu:=a2V ht hk;refine⟨_,hu,rfl,?_,λn w=>?_,λe n w=>?_,λn=>?_⟩
  ·simp only[Instr.sameNow,J4,dEq,a1p,a5L];rw[BEq.comm]
  ·simp only[Op.equalIn,run_underlying hu,J4,dEq,a1p,a5L,Sem.run_bind,Result.andThen_ok,Sem.run_pure];rw[BEq.comm]
  ·simp[Instr.checkKey,run_underlying hu,J4]
  ·have h0:(m == m)=true:=by rw[a5L];simp
   cases n <;> exact h0
 ·have hu:=b2a ht hk;refine⟨_,hu,rfl,?_,λn w=>?_,λe n w=>?_,λn=>?_⟩
  ·simp only[Instr.sameNow,J4,dEq,a0I];rw[BEq.comm]
  ·simp only[Op.equalIn,run_underlying hu,J4,dEq,a0I,Sem.run_bind,Result.andThen_ok,Sem.run_pure];rw[BEq.comm]
  ·simp[Instr.checkKey,run_underlying hu,J4]
  ·cases n <;> simp[Instr.sameBits,J4]
theorem a4q {u:Nat} {us:Array Value} {off:Nat} {v:Value} {w:World} (h:(ty u).agg=false) (hu:j6 u=true) (hv:us[off]?=some v):(part u us off).run Tryz.prog w=.ok v w:=by
 simp only[part,Sem.run_bind,a8o hu,h,Result.andThen_ok,Bool.false_eq_true,if_false,hv,Sem.run_pure]
def FOk:List Field->Nat->List D->Prop
 | [],_,[]=>True
 | f::fs,n,d::ds=>f.offset=n/\j6 f.type=true/\(f.name != "_")=true/\Y4 (ty f.type).kind d=true/\FOk fs (n+1) ds
 | _,_,_=>False
theorem b45:∀ {fs:List Field} {fl:List (Nat×Nat)} {n:Nat} {ds:List D},fs.map (·.offset)=fl.map (·.1)->(∀f∈fs,j6 f.type=true/\(f.name != "_")=true)->N5 (fs.map (·.type)) fl n ds=true->FOk fs n ds
 | [],[],n,[],_,_,_=>trivial
 | [],[],n,_::_,_,_,h=>by cases h
 | [],_::_,n,ds,h,_,_=>by cases h
 | f::fs,[],n,ds,h,_,_=>by cases h
 | f::fs,(off,sz)::fl,n,ds,ho,hk,h=>by
  rw[List.map_cons,List.map_cons] at ho;injection ho with ho1 ho2;simp only at ho1;rw[List.map_cons] at h;unfold N5 at h
  split at h
  ·contradiction
  ·rename_i u us off' fs' n' d ds e1 e2;injection e1 with e1 e3;injection e2 with e2 e4;injection e2 with e2 e5;subst e1;subst e3;subst e4;subst e2
   split at h
   ·rename_i h1
    split at h
    ·rename_i h2;rw[B2] at h1;exact⟨ho1.trans h1,(hk f (List.mem_cons_self ..)).1,(hk f (List.mem_cons_self ..)).2,h2,b45 ho2 (λf hf=>hk f (List.mem_cons_of_mem _ hf)) h⟩
    ·cases h
   ·cases h
  ·cases h
section
variable {w:World}
theorem a7r:∀ {fs:List Field} {n:Nat} {xs ys:List D} {us vs:List D},us.length=n->vs.length=n->FOk fs n xs->FOk fs n ys->∀m,(Op.eqFields (m+1) ((us++xs).map J4).toArray ((vs++ys).map J4).toArray fs).run Tryz.prog w=.ok (b0L ys xs) w
 | [],n,[],[],us,vs,_,_,_,_,m=>rfl
 | f::fs,n,x::xs,y::ys,us,vs,hu,hv,hx,hy,m=>by
  obtain⟨h1,h2,h3,h4,h5⟩:=hx;obtain⟨g1,g2,g3,g4,g5⟩:=hy;obtain⟨d,hd⟩:=a2y h2 h4 g4;have hag:=a91 h2 hd.un hd.ag;have px:(part f.type ((us++x::xs).map J4).toArray f.offset).run Tryz.prog w=.ok (J4 x) w:=a4q hag h2 (by rw[h1,<-hu];simp);have py:(part f.type ((vs++y::ys).map J4).toArray f.offset).run Tryz.prog w=.ok (J4 y) w:=a4q hag h2 (by rw[h1,<-hv];simp);have ih:=a7r (fs:=fs) (n:=n+1) (us:=us++[x]) (vs:=vs++[y]) (by simp[hu]) (by simp[hv]) h5 g5 m;rw[List.append_assoc,List.append_assoc] at ih;simp only[List.singleton_append] at ih;rw[Op.eqFields,if_pos (by simpa using h3)];simp only[Sem.run_bind,px,py,Result.andThen_ok,hd.eq m w];rw[b0L];cases dEq y x with
  | false=>rfl
  | true=>exact ih
theorem a5M {em:Bool} {m:Nat}:∀ {fs:List Field} {n:Nat} {xs us:List D},us.length=n->FOk fs n xs->(forIn fs PUnit.unit λf (_:PUnit)=>(if f.name ≠ "_" then do Instr.checkKey em (m+1) f.type (<-part f.type ((us++xs).map J4).toArray f.offset);pure (.yield PUnit.unit) else pure (.yield PUnit.unit):Sem (ForInStep PUnit))).run Tryz.prog w=.ok PUnit.unit w
 | [],n,[],us,_,_=>rfl
 | f::fs,n,x::xs,us,hu,hx=>by
  obtain⟨h1,h2,h3,h4,h5⟩:=hx;obtain⟨d,hd⟩:=a2y h2 h4 h4;have hag:=a91 h2 hd.un hd.ag;have px:(part f.type ((us++x::xs).map J4).toArray f.offset).run Tryz.prog w=.ok (J4 x) w:=a4q hag h2 (by rw[h1,<-hu];simp);have ih:=a5M (em:=em) (m:=m) (fs:=fs) (n:=n+1) (us:=us++[x]) (by simp[hu]) h5;rw[List.append_assoc] at ih;simp only[List.singleton_append] at ih;rw[List.forIn_cons];rw[if_pos (by simpa using h3)];simp only[Sem.run_bind,px,Result.andThen_ok,hd.chk em m w,Sem.run_pure];exact ih
theorem a93:∀ {n:Nat} {xs:List D},(∀x∈xs,Instr.sameBits n (J4 x) (J4 x)=true)->Instr.sameBits (n+1) (.agg (xs.map J4).toArray) (.agg (xs.map J4).toArray)=true:=by
 intro n xs h;simp only[Instr.sameBits,beq_self_eq_true,Bool.true_and,List.all_eq_true];intro p hp;obtain⟨i,hi⟩:=List.mem_iff_getElem?.1 hp;rw[List.getElem?_zip_eq_some] at hi;have e:p.1=p.2:=Option.some.inj (hi.1.symm.trans hi.2);have h2:=hi.1;simp only[List.getElem?_map] at h2;obtain⟨x,hx,hpx⟩:=Option.map_eq_some_iff.1 h2;obtain⟨p1,p2⟩:=p;simp only at e hpx ⊢;rw[<-e,<-hpx];exact h x (List.mem_of_getElem? hx)
theorem a5N {t:Nat}:∀ {l:List Nat},b1X t l=true->t∈l
 | [],h=>by cases h
 | u::l,h=>by
  rw[b1X] at h
  split at h
  ·rename_i e;rw[B2] at e;rw[e];exact List.mem_cons_self ..
  ·exact List.mem_cons_of_mem _ (a5N h)
theorem a1S {t:Nat} (ht:j6 t=true) (hf:∀u∈(ty t).fty,j6 u=true) {ds:List D} (h:a1A t (.ag ds)=true):∃fs,Tryz.prog.underlying t=some (.struct fs)/\Tryz.prog.stoodInHeld t=false/\FOk fs.toList 0 ds:=by
 rw[a1A] at h
 split at h
 ·rename_i hst
  split at h
  ·rename_i hs;have hm:=b1U t (a5N hs);unfold b0H at hm;simp only[Bool.and_eq_true,Bool.not_eq_true'] at hm;obtain⟨⟨h1,_⟩,h2⟩:=hm;obtain⟨fs,hu,h3,h4⟩:=a4h ht hst;rw[hu] at h2;refine⟨fs,hu,h1,b45 (fl:=(ty t).flds) ?_ (λf hfm=>⟨hf _ (by rw[<-h4];exact List.mem_map_of_mem hfm),List.all_eq_true.1 h2 f hfm⟩) (by rw[h4];exact h)⟩;have:=congrArg (List.map Prod.fst) h3
   simpa [List.map_map,Function.comp_def] using this
  ·cases h
 ·cases h
structure KeyOk (t:Nat) (x y:R) (w:World):Prop where
 eq:(Op.equal t (a0h x) (a0h y)).run Tryz.prog w=.ok (rEq y x) w
 chk:∀e,(Instr.checkKey e 10000 t (a0h x)).run Tryz.prog w=.ok () w
 bits:Instr.sameBits 10000 (a0h x) (a0h x)=true
 now:∀d,Tryz.prog.underlying t=some d->Instr.sameNow d (a0h x) (a0h y)=some (rEq y x)\/Instr.sameNow d (a0h x) (a0h y)=none
theorem a81 {t:Nat} (ht:j6 t=true) (hf:∀u∈(ty t).fty,j6 u=true) {x y:R} (hx:a1A t x=true) (hy:a1A t y=true):KeyOk t x y w:=by
 cases x with
 | one x =>
  cases y with
  | one y =>
   obtain⟨d,hd⟩:=a2y ht hx hy
   exact⟨hd.eq 9999 w,λe=>hd.chk e 9999 w,hd.bits _,λd' hd'=>by
    have h:=hd.un;rw[hd'] at h;injection h with h;subst h
    exact .inl hd.now⟩
  | ag ys =>
   obtain⟨fs,hu,_⟩:=a1S ht hf hy;obtain⟨d,hd⟩:=a2y ht hx hx;have h:=hd.un;rw[hu] at h;injection h with h;subst h;cases hd.ag
 | ag xs =>
  obtain⟨fs,hu,hst,hfx⟩:=a1S ht hf hx;cases y with
  | one y =>
   obtain⟨d,hd⟩:=a2y ht hy hy;have h:=hd.un;rw[hu] at h;injection h with h;subst h;cases hd.ag
  | ag ys =>
   obtain⟨fs',hu',_,hfy⟩:=a1S ht hf hy;rw[hu] at hu';injection hu' with hu'
   injection hu' with hu'
   subst hu';have hfo:Tryz.prog.fieldsOf t=fs:=by unfold Program.fieldsOf;rw[hu]
   refine⟨?_,λe=>?_,?_,λd hd=>?_⟩
   ·have h1:=run_equalIn_struct w 9999 t (xs.map J4).toArray (ys.map J4).toArray (by rw[hfo];exact hu) hst;rw[hfo] at h1;exact h1.trans (a7r (us:=[]) (vs:=[]) rfl rfl hfx hfy 9998)
   ·have h1:=a5M (w:=w) (em:=e) (m:=9998) (us:=[]) rfl hfx;show (Instr.checkKey e (9999+1) t (.agg (xs.map J4).toArray)).run Tryz.prog w=_;rw[Instr.checkKey];simp only[Sem.run_bind,run_underlying hu,Result.andThen_ok];rw[<-Array.forIn_toList];exact(congrArg (λr=>r.andThen λa w'=>Sem.run Tryz.prog (pure ()) w') h1:_)
   ·refine a93 (n:=9999) λx hx'=>?_
    have key:∀ {fs:List Field} {n:Nat} {xs:List D},FOk fs n xs->∀x∈xs,Instr.sameBits 9999 (J4 x) (J4 x)=true:=by
     intro fs
     induction fs with
     | nil =>
      intro n xs h x hx;cases xs with
      | nil=>cases hx
      | cons y ys=>exact(show False from h).elim
     | cons f fs ih =>
      intro n xs h x hx;cases xs with
      | nil=>cases hx
      | cons y xs =>
       obtain⟨h1,h2,h3,h4,h5⟩:=h
       rcases List.mem_cons.1 hx with rfl|hx
       ·obtain⟨d,hd⟩:=a2y h2 h4 h4;exact hd.bits _
       ·exact ih h5 x hx
    exact key hfx x hx'
   ·rw[hu] at hd;injection hd with hd;subst hd;exact .inr rfl
end
section
variable {I:Nat->Nat->Prop} {w:World} {g:Nat->Value}
theorem a5O:∀ {xs:List V} {us:List Value} {ds:List D},n6 I w g us xs->a1i xs=some ds->A8 I w us ds
 | [],us,ds,h,hd=>by
  rw[a1i] at hd;injection hd with hd;subst hd;rw[h.unnil];exact .nil I w
 | x::l,us,ds,h,hd=>by
  obtain⟨u,us,rfl,h1,h2⟩:=h.uncons;cases x with
  | d x =>
   rw[a1i] at hd
   split at hd
   ·rename_i ys hys;injection hd with hd;subst hd;cases h1 with
    | d h1=>exact .cons h1 (a5O h2 hys)
   ·cases hd
  | _=>simp[a1i] at hd
end
end
end Go.Proofs.YtncijebklnbhlaaGreatDoor.Vm
end
