/- Part 1 of the proof. Conditions: none. -/
import Derived.Test.YtlofmibkljoapaaDoorChecked
import Derived.WalkKit
import Derived.Lib.Hide
import Derived.Deep.Draws
import Derived.Laws.Rows
import Derived.Maps.AppendAt
import Derived.Deep.AppendLies
import Derived.RegionTactic
import Derived.OwnWalk
import Derived.WalkSpells
import Derived.Laws.Tables
import Derived.Laws.CopyRow
import Derived.OrdersIn
import Derived.Laws.Slices
import Derived.Laws.StructEq
import Derived.Maps.Keyed
import Derived.Test.YtlofmibkljoapaaDoorO0
set_option linter.all false
set_option linter.unusedVariables false
set_option linter.unusedSimpArgs false
section
namespace Go.Proofs.YtlofmibkljoapaaDoor.Vm
open Go.RowKit
set_option maxRecDepth 100000
set_option maxHeartbeats 4000000
inductive TK where
 | int (k:IntKind)
 | bool
 | str
 | slice
 | struct
 | array
 | map
 | ptr
 | other
structure TI where
 kind:TK:=.other
 agg:Bool:=false
 sz:Nat:=1
 zero:List Value:=[]
 flds:List (Nat×Nat):=[]
 fty:List Nat:=[]
 elem:Option Nat:=none
 key:Option Nat:=none
 val:Option Nat:=none
 alen:Nat:=0
def b0x:Option TypeDesc->Option Bool
 | some (.struct _)=>some true
 | some (.array _ _)=>some true
 | some _=>some false
 | none=>none
def b2a (P:Program):Option TypeDesc->Option (List (Nat×Option Nat)×List Nat)
 | some (.struct fs)=>some (fs.toList.map (λf=>(f.offset,(P.info? f.type).map (·.size))),fs.toList.map (·.type))
 | _=>none
def a0P (P:Program) (t:Nat) (i:TI):Prop:=match i.kind with
 | .int k=>P.underlying t=some (.int k)
 | .bool=>P.underlying t=some .bool
 | .str=>P.underlying t=some .string
 | .slice=>P.underlying t=i.elem.map .slice/\i.elem.isSome=true
 | .ptr=>P.underlying t=i.val.map .pointer/\i.val.isSome=true
 | .array=>P.underlying t=i.val.map (.array i.alen)/\i.val.isSome=true
 | .map=>P.underlying t=(i.key.bind λk=>i.val.map λe=>.map k e)/\i.key.isSome=true/\i.val.isSome=true
 | .struct=>b2a P (P.underlying t)=some (i.flds.map (λx=>(x.1,some x.2)),i.fty)
 | _=>True
def b5X:Value->Bool
 | .agg _=>true
 | _=>false
structure TyOk (P:Program) (t:Nat) (i:TI):Prop where
 info:(P.info? t).map (λx=>(x.size,x.zero.map Value.cells))=some (i.sz,some i.zero.toArray)
 len:i.zero.length=i.sz
 zag:((P.info? t).bind (·.zero)).map b5X=some i.agg
 bytes:((P.info? t).map λx=>decide (x.bytes<=1024))=some true
 agg:b0x (P.underlying t)=some i.agg
 under:a0P P t i
 elem:(match i.kind with|.slice=>true|_=>i.elem.isNone)=true
 flds:(match i.kind with|.struct=>true|_=>i.flds.isEmpty)=true
def ty (n:Nat):TI:=match Nat.blt n 62 with|true=>(match Nat.blt n 29 with|true=>(match Nat.blt n 16 with|true=>(match Nat.blt n 7 with|true=>(match Nat.blt n 2 with|true=>(match Nat.blt n 1 with|true=>{ kind:=.other }|false=>{ sz:=1,zero:=[.nilFunc] })|false=>(match Nat.blt n 4 with|true=>{ kind:=.int .i64,sz:=1,zero:=[.int .i64 0] }|false=>(match Nat.blt n 5 with|true=>{ kind:=.bool,sz:=1,zero:=[.bool false] }|false=>{ kind:=.int .u8,sz:=1,zero:=[.int .u8 0] })))|false=>(match Nat.blt n 12 with|true=>(match Nat.blt n 9 with|true=>{ kind:=.struct,agg:=true,sz:=4,zero:=[.int .i64 0,.int .i64 0,.bool false,.int .u8 0],flds:=[(0,1),(1,1),(2,1),(3,1)],fty:=[2,3,4,6] }|false=>{ kind:=.str,sz:=1,zero:=[.string ⟨#[]⟩] })|false=>(match Nat.blt n 13 with|true=>{ kind:=.int .u64,sz:=1,zero:=[.int .u64 0] }|false=>(match Nat.blt n 15 with|true=>{ kind:=.struct,agg:=true,sz:=2,zero:=[.string ⟨#[]⟩,.int .u64 0],flds:=[(0,1),(1,1)],fty:=[9,12] }|false=>{ kind:=.ptr,sz:=1,zero:=[.pointer none],val:=some 130 }))))|false=>(match Nat.blt n 22 with|true=>(match Nat.blt n 18 with|true=>(match Nat.blt n 17 with|true=>{ kind:=.ptr,sz:=1,zero:=[.pointer none],val:=some 133 }|false=>{ kind:=.ptr,sz:=1,zero:=[.pointer none],val:=some 141 })|false=>(match Nat.blt n 20 with|true=>{ kind:=.struct,agg:=true,sz:=1,zero:=[.pointer none],flds:=[(0,1)],fty:=[17] }|false=>(match Nat.blt n 21 with|true=>{ sz:=1,zero:=[.nilIface] }|false=>{ kind:=.int .i32,sz:=1,zero:=[.int .i32 0] })))|false=>(match Nat.blt n 24 with|true=>(match Nat.blt n 23 with|true=>{ kind:=.int .u8,sz:=1,zero:=[.int .u8 0] }|false=>{ kind:=.slice,sz:=1,zero:=[.slice none 0 0],elem:=some 25 })|false=>(match Nat.blt n 26 with|true=>{ kind:=.struct,agg:=true,sz:=4,zero:=[.int .u8 0,.string ⟨#[]⟩,.int .i64 0,.slice none 0 0],flds:=[(0,1),(1,1),(2,1),(3,1)],fty:=[22,9,3,23] }|false=>(match Nat.blt n 28 with|true=>{ sz:=1,zero:=[.nilFunc] }|false=>{ kind:=.int .u8,sz:=1,zero:=[.int .u8 0] })))))|false=>(match Nat.blt n 45 with|true=>(match Nat.blt n 37 with|true=>(match Nat.blt n 31 with|true=>(match Nat.blt n 30 with|true=>{ kind:=.other }|false=>{ sz:=1,zero:=[.nilFunc] })|false=>(match Nat.blt n 32 with|true=>{ kind:=.int .u64,sz:=1,zero:=[.int .u64 0] }|false=>(match Nat.blt n 33 with|true=>{ kind:=.other }|false=>{ sz:=1,zero:=[.nilFunc] })))|false=>(match Nat.blt n 39 with|true=>(match Nat.blt n 38 with|true=>{ kind:=.slice,sz:=1,zero:=[.slice none 0 0],elem:=some 40 }|false=>{ sz:=1,zero:=[.nilFunc] })|false=>(match Nat.blt n 41 with|true=>{ kind:=.struct,agg:=true,sz:=5,zero:=[.int .i64 0,.int .u8 0,.string ⟨#[]⟩,.int .i64 0,.slice none 0 0],flds:=[(0,1),(1,4)],fty:=[3,25] }|false=>(match Nat.blt n 44 with|true=>{ sz:=1,zero:=[.nilFunc] }|false=>{ kind:=.other }))))|false=>(match Nat.blt n 53 with|true=>(match Nat.blt n 49 with|true=>(match Nat.blt n 48 with|true=>{ sz:=1,zero:=[.nilFunc] }|false=>{ kind:=.map,sz:=1,zero:=[.map none],key:=some 3,val:=some 25 })|false=>(match Nat.blt n 51 with|true=>{ kind:=.struct,agg:=true,sz:=1,zero:=[.map none],flds:=[(0,1)],fty:=[48] }|false=>(match Nat.blt n 52 with|true=>{ kind:=.slice,sz:=1,zero:=[.slice none 0 0],elem:=some 3 }|false=>{ sz:=1,zero:=[.nilFunc] })))|false=>(match Nat.blt n 57 with|true=>(match Nat.blt n 55 with|true=>{ kind:=.map,sz:=1,zero:=[.map none],key:=some 3,val:=some 4 }|false=>(match Nat.blt n 56 with|true=>{ sz:=1,zero:=[.nilFunc] }|false=>{ kind:=.ptr,sz:=1,zero:=[.pointer none],val:=some 59 }))|false=>(match Nat.blt n 58 with|true=>{ kind:=.slice,sz:=1,zero:=[.slice none 0 0],elem:=some 5 }|false=>(match Nat.blt n 60 with|true=>{ kind:=.struct,agg:=true,sz:=2,zero:=[.pointer none,.slice none 0 0],flds:=[(0,1),(1,1)],fty:=[56,57] }|false=>{ kind:=.struct,agg:=true,sz:=2,zero:=[.pointer none,.slice none 0 0],flds:=[(0,2)],fty:=[59] }))))))|false=>(match Nat.blt n 110 with|true=>(match Nat.blt n 85 with|true=>(match Nat.blt n 71 with|true=>(match Nat.blt n 65 with|true=>(match Nat.blt n 64 with|true=>{ sz:=1,zero:=[.nilFunc] }|false=>{ kind:=.map,sz:=1,zero:=[.map none],key:=some 3,val:=some 3 })|false=>(match Nat.blt n 66 with|true=>{ sz:=1,zero:=[.nilFunc] }|false=>(match Nat.blt n 67 with|true=>{ kind:=.other }|false=>{ sz:=1,zero:=[.nilFunc] })))|false=>(match Nat.blt n 74 with|true=>(match Nat.blt n 72 with|true=>{ kind:=.slice,sz:=1,zero:=[.slice none 0 0],elem:=some 73 }|false=>{ kind:=.struct,agg:=true,sz:=5,zero:=[.string ⟨#[]⟩,.int .u8 0,.string ⟨#[]⟩,.int .i64 0,.slice none 0 0],flds:=[(0,1),(1,4)],fty:=[9,25] })|false=>(match Nat.blt n 82 with|true=>{ sz:=1,zero:=[.nilFunc] }|false=>(match Nat.blt n 83 with|true=>{ kind:=.ptr,sz:=1,zero:=[.pointer none],val:=some 61 }|false=>{ sz:=1,zero:=[.nilIface] }))))|false=>(match Nat.blt n 91 with|true=>(match Nat.blt n 88 with|true=>(match Nat.blt n 86 with|true=>{ kind:=.other }|false=>{ sz:=1,zero:=[.nilFunc] })|false=>(match Nat.blt n 89 with|true=>{ kind:=.ptr,sz:=1,zero:=[.pointer none],val:=some 5 }|false=>(match Nat.blt n 90 with|true=>{ kind:=.other }|false=>{ sz:=1,zero:=[.nilFunc] })))|false=>(match Nat.blt n 101 with|true=>(match Nat.blt n 92 with|true=>{ kind:=.slice,sz:=1,zero:=[.slice none 0 0],elem:=some 9 }|false=>(match Nat.blt n 93 with|true=>{ kind:=.other }|false=>{ sz:=1,zero:=[.nilFunc] }))|false=>(match Nat.blt n 103 with|true=>{ kind:=.other }|false=>(match Nat.blt n 109 with|true=>{ sz:=1,zero:=[.nilFunc] }|false=>{ sz:=1,zero:=[.pointer none] })))))|false=>(match Nat.blt n 124 with|true=>(match Nat.blt n 117 with|true=>(match Nat.blt n 113 with|true=>(match Nat.blt n 112 with|true=>{ sz:=1,zero:=[.nilFunc] }|false=>{ kind:=.int .u64,sz:=1,zero:=[.int .u64 0] })|false=>(match Nat.blt n 114 with|true=>{ sz:=1,zero:=[.nilFunc] }|false=>(match Nat.blt n 115 with|true=>{ kind:=.array,agg:=true,sz:=24,zero:=[.int .u8 0,.int .u8 0,.int .u8 0,.int .u8 0,.int .u8 0,.int .u8 0,.int .u8 0,.int .u8 0,.int .u8 0,.int .u8 0,.int .u8 0,.int .u8 0,.int .u8 0,.int .u8 0,.int .u8 0,.int .u8 0,.int .u8 0,.int .u8 0,.int .u8 0,.int .u8 0,.int .u8 0,.int .u8 0,.int .u8 0,.int .u8 0],val:=some 5,alen:=24 }|false=>{ sz:=1,zero:=[.nilFunc] })))|false=>(match Nat.blt n 121 with|true=>(match Nat.blt n 118 with|true=>{ kind:=.other }|false=>{ sz:=1,zero:=[.nilFunc] })|false=>(match Nat.blt n 122 with|true=>{ kind:=.array,agg:=true,sz:=20,zero:=[.int .u64 0,.int .u64 0,.int .u64 0,.int .u64 0,.int .u64 0,.int .u64 0,.int .u64 0,.int .u64 0,.int .u64 0,.int .u64 0,.int .u64 0,.int .u64 0,.int .u64 0,.int .u64 0,.int .u64 0,.int .u64 0,.int .u64 0,.int .u64 0,.int .u64 0,.int .u64 0],val:=some 31,alen:=20 }|false=>(match Nat.blt n 123 with|true=>{ kind:=.int .u32,sz:=1,zero:=[.int .u32 0] }|false=>{ kind:=.other }))))|false=>(match Nat.blt n 132 with|true=>(match Nat.blt n 128 with|true=>(match Nat.blt n 127 with|true=>{ sz:=1,zero:=[.nilFunc] }|false=>{ kind:=.array,agg:=true,sz:=32,zero:=[.int .u8 0,.int .u8 0,.int .u8 0,.int .u8 0,.int .u8 0,.int .u8 0,.int .u8 0,.int .u8 0,.int .u8 0,.int .u8 0,.int .u8 0,.int .u8 0,.int .u8 0,.int .u8 0,.int .u8 0,.int .u8 0,.int .u8 0,.int .u8 0,.int .u8 0,.int .u8 0,.int .u8 0,.int .u8 0,.int .u8 0,.int .u8 0,.int .u8 0,.int .u8 0,.int .u8 0,.int .u8 0,.int .u8 0,.int .u8 0,.int .u8 0,.int .u8 0],val:=some 5,alen:=32 })|false=>(match Nat.blt n 129 with|true=>{ kind:=.other }|false=>(match Nat.blt n 131 with|true=>{ kind:=.struct,agg:=true,sz:=4,zero:=[.pointer none,.pointer none,.pointer none,.string ⟨#[]⟩],flds:=[(0,1),(1,1),(2,1),(3,1)],fty:=[17,17,17,9] }|false=>{ kind:=.array,agg:=true,sz:=0,zero:=[],val:=some 16,alen:=0 })))|false=>(match Nat.blt n 137 with|true=>(match Nat.blt n 134 with|true=>{ kind:=.struct,agg:=true,sz:=0,zero:=[],flds:=[(0,0)],fty:=[131] }|false=>(match Nat.blt n 135 with|true=>{ sz:=1,zero:=[.nilFunc] }|false=>{ kind:=.int .u8,sz:=1,zero:=[.int .u8 0] }))|false=>(match Nat.blt n 138 with|true=>{ sz:=1,zero:=[.nilFunc] }|false=>(match Nat.blt n 140 with|true=>{ kind:=.int .i32,sz:=1,zero:=[.int .i32 0] }|false=>{ kind:=.struct,agg:=true,sz:=11,zero:=[.int .u64 0,.int .u64 0,.int .u32 0,.int .u8 0,.int .u8 0,.int .u8 0,.int .u8 0,.nilFunc,.pointer none,.int .i32 0,.int .i32 0],flds:=[(0,1),(1,1),(2,1),(3,1),(4,1),(5,1),(6,1),(7,1),(8,1),(9,1),(10,1)],fty:=[12,12,122,135,5,5,136,137,88,138,139] }))))))
def b9y:List Nat:=[]
def b2b (P:Program) (t:Nat):Bool:=(!P.stoodInHeld t && !P.eqGuardType P.depth t) && (match P.underlying t with|some (.struct fs)=>fs.toList.all (λf=>f.name != "_")|_=>false)
theorem b3k:∀t∈b9y,b2b Tryd.prog t=true:=(λ_ h=>by cases h)
def b5Y:List Nat:=[1,2,3,4,5,6,7,8,9,10,11,12,13,14,15,16,17,18,19,20,21,22,23,24,25,26,27,28,30,31,33,34,35,36,37,38,39,40,41,42,43,45,46,47,48,49,50,51,52,53,54,55,56,57,58,59,60,61,62,63,64,65,67,68,69,70,71,72,73,74,75,76,77,78,79,80,81,82,83,84,86,87,88,90,91,93,94,95,96,97,98,99,100,103,104,105,106,107,108,109,110,111,112,113,114,115,116,118,119,120,121,122,124,125,126,127,129,130,131,132,133,134,135,136,137,138,139,140,141]
def c8 (t:Nat):Bool:=b5Y.contains t
def tabsOf:List (String×IntKind×List Int):=[("internal/strconv.uint64pow10",.u64,[1,10,100,1000,10000,100000,1000000,10000000,100000000,1000000000,10000000000,100000000000,1000000000000,10000000000000,100000000000000,1000000000000000,10000000000000000,100000000000000000,1000000000000000000,10000000000000000000]),("math/bits.deBruijn32tab",.u8,[0,1,28,2,29,14,24,3,30,22,20,15,25,17,4,8,31,27,13,23,21,19,16,7,26,12,18,6,11,5,10,9]),("math/bits.deBruijn64tab",.u8,[0,1,56,2,57,49,28,3,61,58,42,50,38,29,17,4,62,47,59,36,45,43,51,22,53,39,33,30,24,18,12,5,63,55,48,27,60,41,37,16,46,35,44,21,52,32,23,11,54,26,40,15,34,20,31,10,25,14,19,9,13,8,7,6])]
def tyL (P:Program) (t:Nat) (i:TI):Option TypeDesc×Option (List (Nat×Option Nat)×List Nat)×Bool:=match i.kind with
 | .slice=>(P.underlying t,none,i.elem.isSome)
 | .ptr|.array=>(P.underlying t,none,i.val.isSome)
 | .map=>(P.underlying t,none,i.key.isSome && i.val.isSome)
 | .struct=>(none,b2a P (P.underlying t),true)
 | .other=>(none,none,true)
 | _=>(P.underlying t,none,true)
def tyR (i:TI):Option TypeDesc×Option (List (Nat×Option Nat)×List Nat)×Bool:=match i.kind with
 | .int k=>(some (.int k),none,true)
 | .bool=>(some .bool,none,true)
 | .str=>(some .string,none,true)
 | .slice=>(i.elem.map .slice,none,true)
 | .ptr=>(i.val.map .pointer,none,true)
 | .array=>(i.val.map (.array i.alen),none,true)
 | .map=>(i.key.bind λk=>i.val.map λe=>.map k e,none,true)
 | .struct=>(none,some (i.flds.map (λx=>(x.1,some x.2)),i.fty),true)
 | .other=>(none,none,true)
def b5Z (P:Program) (t:Nat) (i:TI):=((P.info? t).map (λx=>(x.size,x.zero.map Value.cells)),i.zero.length,((P.info? t).bind (·.zero)).map b5X,(P.info? t).map (λx=>decide (x.bytes<=1024)),b0x (P.underlying t),tyL P t i,(match i.kind with|.slice=>true|_=>i.elem.isNone),(match i.kind with|.struct=>true|_=>i.flds.isEmpty))
def b6a (i:TI):Option (Nat×Option (Array Value))×Nat×Option Bool×Option Bool×Option Bool×(Option TypeDesc×Option (List (Nat×Option Nat)×List Nat)×Bool)×Bool×Bool:=(some (i.sz,some i.zero.toArray),i.sz,some i.agg,some true,some i.agg,tyR i,true,true)
theorem TyOk.of {P:Program} {t:Nat} {i:TI} (h:b5Z P t i=b6a i):TyOk P t i:=by
 unfold b5Z b6a at h;simp only[Prod.mk.injEq] at h;obtain⟨h1,h2,h3,h4,h5,h6,h7,h8⟩:=h;refine⟨h1,h2,h3,h4,h5,?_,h7,h8⟩;unfold tyL tyR at h6;unfold a0P;cases hk:i.kind <;> simp only[hk,Prod.mk.injEq,c2B,and_true,true_and] at h6 ⊢ <;> first|exact h6|trivial
theorem c0Y:b5Y.map (λt=>b5Z Tryd.prog t (ty t))=b5Y.map (λt=>b6a (ty t)):=by kernel_rfl
theorem b3l {α β:Type} {f g:α->β}:∀ {l:List α},l.map f=l.map g->∀x∈l,f x=g x
 | a::l,h,x,hx=>by
  rw[c2Y,c2Y] at h;injection h with h1 h2;cases hx with
  | head=>exact h1
  | tail _ hx=>exact b3l h2 x hx
theorem a39 (t:Nat) (h:c8 t=true):TyOk Tryd.prog t (ty t):=TyOk.of (b3l c0Y t (by unfold c8 at h;simpa using h))
inductive D where
 | sc (v:Value)
 | sl (sz:Nat) (rows:List (List D))
inductive R where
 | one (x:D)
 | ag (xs:List D)
inductive V where
 | d (x:D)
 | ag (cs:List V)
 | tu (vs:List V)
 | em
 | own (k:Nat)
 | ptr (k off:Nat)
 | cl (f:Nat) (ks:List Nat)
 | el (k:Nat) (i:Int) (sz off:Nat)
 | ro (cs:List D) (off:Nat)
 | mp (k:Nat)
 | bs (k n:Nat)
 | jk
inductive O where
 | box (cs:List V)
 | row (z:Bool) (e:Nat) (rows:List (List D))
 | mp (kt:Nat) (es:List (R×R))
 | kl (ks:List Nat)
 | it (P:World->Value->List Nat->Prop)
 | ob (T:Nat) (vs:List Value)
 | dead
structure S where
 t:List V
 o:List O
inductive X where
 | normal
 | exit (id:Nat)
 | ret
def a3P (N:S->Prop) (K:X->S->Prop):X->S->Prop
 | .normal,s=>N s
 | .exit i,s=>K (.exit i) s
 | .ret,s=>K .ret s
structure Ar where
 wrap:IntKind->Int->Int
 add:Int->Int->Int
 sub:Int->Int->Int
 mul:Int->Int->Int
 quo:Int->Int->Int
 rem:Int->Int->Int
 bits:BinOp->IntKind->Int->IntKind->Int->Option Int
 lt:Int->Int->Bool
 le:Int->Int->Bool
 eq:Int->Int->Bool
 nz:Int->Prop->Prop
 seq:List UInt8->List UInt8->Bool
 slt:List UInt8->List UInt8->Bool
 bytes:ByteArray->List UInt8
 cat:ByteArray->ByteArray->ByteArray
 fits:ByteArray->ByteArray->Prop->Prop
 slen:ByteArray->Int
 sget:ByteArray->Int->Option Int
 ssub:ByteArray->Int->Int->Option ByteArray
 txt:List (List D)->Option ByteArray
 byt:ByteArray->List (List D)
 nat:Int->Nat->Option Nat
 len:List (List D)->Int
 get:List (List D)->Int->Option (List D)
 sub2:List (List D)->Int->Int->Option (List (List D))
 app:List (List D)->List (List D)->List (List D)
 set:List (List D)->Int->List D->List (List D)
 room:List (List D)->List (List D)->Prop->Prop
 mlook:List (R×R)->R->Option R
 mput:List (R×R)->R->R->List (R×R)
 deq:List D->List D->Bool
 rep:Int->List D->(List (List D)->Prop)->Prop
 call:Nat->List R->(List R->Prop)->Prop
 calld:Nat->List V->List O->(V->Prop)->Prop
 callo:Nat->List V->S->(V->S->Prop)->Prop
 callx:Nat->List V->List Nat->S->(V->S->Prop)->Prop
 new:Nat->(Bool->Prop)->Prop
 lit:Nat->(Bool->Prop)->Prop
 keep:Nat->(List V->List O->Prop)->List V->S->Prop
 next:(S->Prop)->S->Prop
 ext:Op->Option Nat->S->(S->Prop)->Prop
 reg:Array Oper->S->(S->Prop)->Prop
 loop:Code->(S->(X->S->Prop)->Prop)->S->(X->S->Prop)->Prop
def m8:List V->Nat->V
 | [],_=>.jk
 | x::_,0=>x
 | _::l,n+1=>m8 l n
def G7:List V->Nat->V->List V
 | [],_,_=>[]
 | _::l,0,v=>v::l
 | x::l,n+1,v=>x::G7 l n v
def m5:List O->Nat->O
 | [],_=>.dead
 | x::_,0=>x
 | _::l,n+1=>m5 l n
def A2:List O->Nat->O->List O
 | [],_,_=>[]
 | _::l,0,v=>v::l
 | x::l,n+1,v=>x::A2 l n v
def o6:List O->O->List O
 | [],v=>[v]
 | x::l,v=>x::o6 l v
def j2:List O->Nat
 | []=>0
 | _::l=>j2 l+1
def K3 {α:Type}:Nat->List α->List α
 | 0,l=>l
 | _+1,[]=>[]
 | n+1,_::l=>K3 n l
def G8 {α:Type}:Nat->List α->Option (List α)
 | 0,_=>some []
 | _+1,[]=>none
 | n+1,x::l=>match G8 n l with|some t=>some (x::t)|none=>none
def m9 {α:Type}:List α->Nat
 | []=>0
 | _::l=>m9 l+1
def B8:Nat->Nat->Bool
 | 0,0=>true
 | n+1,m+1=>B8 n m
 | _,_=>false
def splice {α:Type}:List α->Nat->List α->Option (List α)
 | l,0,[]=>some l
 | _::l,0,y::ys=>match splice l 0 ys with|some t=>some (y::t)|none=>none
 | x::l,n+1,ys=>match splice l n ys with|some t=>some (x::t)|none=>none
 | [],_+1,_=>none
 | [],0,_::_=>none
def b4K:V->Bool
 | .d _=>true
 | .em=>true
 | .own _=>true
 | .ptr _ _=>true
 | .cl _ _=>true
 | .el _ _ _ _=>true
 | .ro _ _=>true
 | .mp _=>true
 | .bs _ _=>true
 | _=>false
def a2u:List V->Bool
 | []=>true
 | x::l=>match b4K x with|true=>a2u l|false=>false
def a0Q:V->Option (List V)
 | .ag l=>match a2u l with|true=>some l|false=>none
 | .jk=>none
 | .tu _=>none
 | x=>some [x]
def ofD:List D->List V
 | []=>[]
 | x::l=>.d x::ofD l
def b8q:R->V
 | .one x=>.d x
 | .ag xs=>.ag (ofD xs)
def b0y:List R->List V
 | []=>[]
 | x::l=>b8q x::b0y l
def a2v:List R->V
 | [r]=>b8q r
 | rs=>.tu (b0y rs)
def toD (os:List O):V->Option D
 | .d x=>some x
 | .cl f []=>some (.sc (.func (.func f) #[] #[]))
 | .em=>some (.sl 0 [])
 | .own k=>match m5 os k with|.row true e rows=>some (.sl (ty e).sz rows)|_=>none
 | _=>none
def a2n (os:List O):List V->Option (List D)
 | []=>some []
 | x::l=>match toD os x with
  | some y=>match a2n os l with|some ys=>some (y::ys)|none=>none
  | none=>none
def toR (os:List O):V->Option R
 | .ag l=>match a2n os l with|some ys=>some (.ag ys)|none=>none
 | x=>match toD os x with|some y=>some (.one y)|none=>none
def a0A (os:List O):List V->Option (List R)
 | []=>some []
 | x::l=>match toR os x with
  | some y=>match a0A os l with|some ys=>some (y::ys)|none=>none
  | none=>none
def a61 (k:Nat):V->V
 | .own j=>match B8 j k with|true=>.jk|false=>.own j
 | .el j i sz off=>match B8 j k with|true=>.jk|false=>.el j i sz off
 | .ag _=>.jk
 | .tu _=>.jk
 | x=>x
def w7 (k:Nat):List V->List V
 | []=>[]
 | x::l=>a61 k x::w7 k l
def C2 (k:Nat):V->V
 | .ag cs=>.ag (w7 k cs)
 | .tu []=>.tu []
 | .tu _=>.jk
 | x=>a61 k x
def G9 (k:Nat):List V->List V
 | []=>[]
 | x::l=>C2 k x::G9 k l
def y8 (k:Nat):List O->List O
 | []=>[]
 | .box cs::l=>.box (w7 k cs)::y8 k l
 | .kl ks::l=>.kl (k::ks)::y8 k l
 | x::l=>x::y8 k l
def a5f:Value->V
 | .slice none 0 0=>.em
 | .agg _=>.jk
 | .tuple _=>.jk
 | v=>.d (.sc v)
def A6:List Value->List V
 | []=>[]
 | x::l=>a5f x::A6 l
def S.get (s:S):Operand->V
 | .tmp i=>m8 s.t i
 | .const v=>a5f v
 | .func f=>.cl f []
 | .global _=>.jk
def S.put (s:S) (d:Option Nat) (v:V):S:=match d with
 | some i=>⟨G7 s.t i v,s.o⟩
 | none=>s
def S.obj (s:S) (o:O):S:=⟨s.t,o6 s.o o⟩
def S.fresh (m:Bool) (s:S) (o:O):S:=match m with
 | true=>s.obj o
 | false=>⟨G9 (j2 s.o) s.t,o6 (y8 (j2 s.o) s.o) o⟩
def vb (b:Bool):V:=.d (.sc (.bool b))
def vi (k:IntKind) (n:Int):V:=.d (.sc (.int k n))
def vs (s:ByteArray):V:=.d (.sc (.string s))
def keq:IntKind->IntKind->Bool
 | .i8,.i8=>true
 | .i16,.i16=>true
 | .i32,.i32=>true
 | .i64,.i64=>true
 | .u8,.u8=>true
 | .u16,.u16=>true
 | .u32,.u32=>true
 | .u64,.u64=>true
 | _,_=>false
def a1O:Bool->Bool
 | true=>false
 | false=>true
def bEq:Bool->Bool->Bool
 | true,true=>true
 | false,false=>true
 | _,_=>false
def orB:Bool->Bool->Bool
 | true,_=>true
 | false,b=>b
def binInt (a:Ar) (k:IntKind) (x y:Int) (K:V->Prop):BinOp->Prop
 | .add=>K (vi k (a.wrap k (a.add x y)))
 | .sub=>K (vi k (a.wrap k (a.sub x y)))
 | .mul=>K (vi k (a.wrap k (a.mul x y)))
 | .quo=>a.nz y (K (vi k (a.wrap k (a.quo x y))))
 | .rem=>a.nz y (K (vi k (a.rem x y)))
 | .eql=>K (vb (a.eq x y))
 | .neq=>K (vb (a1O (a.eq x y)))
 | .lss=>K (vb (a.lt x y))
 | .leq=>K (vb (a.le x y))
 | .gtr=>K (vb (a.lt y x))
 | .geq=>K (vb (a.le y x))
 | _=>False
def binStr (a:Ar) (x y:ByteArray) (K:V->Prop):BinOp->Prop
 | .add=>a.fits x y (K (vs (a.cat x y)))
 | .eql=>K (vb (a.seq (a.bytes x) (a.bytes y)))
 | .neq=>K (vb (a1O (a.seq (a.bytes x) (a.bytes y))))
 | .lss=>K (vb (a.slt (a.bytes x) (a.bytes y)))
 | .gtr=>K (vb (a1O (orB (a.slt (a.bytes x) (a.bytes y)) (a.seq (a.bytes x) (a.bytes y)))))
 | .leq=>K (vb (orB (a.slt (a.bytes x) (a.bytes y)) (a.seq (a.bytes x) (a.bytes y))))
 | .geq=>K (vb (a1O (a.slt (a.bytes x) (a.bytes y))))
 | _=>False
def c0Z:BinOp->Bool
 | .and=>true
 | .or=>true
 | .xor=>true
 | .andNot=>true
 | .shl=>true
 | .shr=>true
 | _=>false
def b9P (k:IntKind) (K:V->Prop):Option Int->Prop
 | some n=>K (vi k n)
 | none=>False
def a62 (op:BinOp) (k:IntKind) (x:Int) (k':IntKind) (y:Int):Option Int:=match op with
 | .shl=>match y with|.ofNat n=>some (k.wrap (x * 2 ^ (min n k.bits)))|.negSucc _=>none
 | .shr=>match y with|.ofNat n=>some (x.fdiv (2 ^ (min n k.bits)))|.negSucc _=>none
 | .and=>match keq k k' with|true=>some (k.wrap (BitVec.ofInt k.bits x &&& BitVec.ofInt k.bits y).toNat)|false=>none
 | .or=>match keq k k' with|true=>some (k.wrap (BitVec.ofInt k.bits x ||| BitVec.ofInt k.bits y).toNat)|false=>none
 | .xor=>match keq k k' with|true=>some (k.wrap (BitVec.ofInt k.bits x ^^^ BitVec.ofInt k.bits y).toNat)|false=>none
 | .andNot=>match keq k k' with|true=>some (k.wrap (BitVec.ofInt k.bits x &&& ~~~BitVec.ofInt k.bits y).toNat)|false=>none
 | _=>none
def a1t (a:Ar) (op:BinOp):Value->Value->(V->Prop)->Prop
 | .int k x,.int k' y,K=>match c0Z op with
  | true=>b9P k K (a.bits op k x k' y)
  | false=>match keq k k' with|true=>binInt a k x y K op|false=>False
 | .string x,.string y,K=>binStr a x y K op
 | _,_,_=>False
def a2w (b:Bool) (K:V->Prop):BinOp->Prop
 | .eql=>K (vb b)
 | .neq=>K (vb (a1O b))
 | _=>False
def a9p:V->Bool
 | .d (.sc (.pointer none))=>true
 | _=>false
def a4t:TK->Bool
 | .slice=>true
 | _=>false
def a0d:TK->D->Bool
 | .int k,.sc (.int k' _)=>keq k k'
 | .str,.sc (.string _)=>true
 | .bool,.sc (.bool _)=>true
 | _,_=>false
def N0:List Nat->List (Nat×Nat)->Nat->List D->Bool
 | [],[],_,[]=>true
 | u::us,(off,1)::fs,n,d::ds=>match B8 off n with
  | true=>match a0d (ty u).kind d with|true=>N0 us fs (n+1) ds|false=>false
  | false=>false
 | _,_,_,_=>false
def a07:Nat->Nat->Bool:=Nat.beq
def a2k:Int->Int->Bool
 | .ofNat m,.ofNat n=>a07 m n
 | .negSucc m,.negSucc n=>a07 m n
 | _,_=>false
def a1P:List UInt8->List UInt8->Bool
 | [],[]=>true
 | x::l,y::m=>match a07 x.toNat y.toNat with|true=>a1P l m|false=>false
 | _,_=>false
def dEq:D->D->Bool
 | .sc (.int _ m),.sc (.int _ n)=>a2k m n
 | .sc (.string x),.sc (.string y)=>a1P x.data.toList y.data.toList
 | .sc (.bool x),.sc (.bool y)=>bEq x y
 | _,_=>false
def b2d:List D->List D->Bool
 | [],[]=>true
 | x::l,y::m=>match dEq x y with|true=>b2d l m|false=>false
 | _,_=>false
def b3m (t:Nat):List Nat->Bool
 | []=>false
 | u::l=>match B8 u t with|true=>true|false=>b3m t l
def a2o (t:Nat):R->Bool
 | .one d=>a0d (ty t).kind d
 | .ag ds=>match (ty t).kind with|.struct=>(match b3m t b9y with|true=>N0 (ty t).fty (ty t).flds 0 ds|false=>false)|_=>false
def a1Q:List V->Option (List D)
 | []=>some []
 | .d x::l=>match a1Q l with|some ys=>some (x::ys)|none=>none
 | _=>none
def a8h (a:Ar) (op:BinOp) (t:Nat):V->V->(V->Prop)->Prop
 | .d (.sc x),.d (.sc y),K=>match (ty t).kind with
  | .ptr=>match x,y with
   | .pointer none,.pointer none=>a2w true K op
   | _,_=>False
  | .bool=>match x,y with
   | .bool b,.bool c=>a2w (bEq b c) K op
   | _,_=>False
  | _=>a1t a op x y K
 | .ptr _ _,y,K=>match (ty t).kind with
  | .ptr=>match a9p y with|true=>a2w false K op|false=>False
  | _=>False
 | x,.ptr _ _,K=>match (ty t).kind with
  | .ptr=>match a9p x with|true=>a2w false K op|false=>False
  | _=>False
 | .d (.sl _ rows),.em,K=>match a4t (ty t).kind with|true=>a.nz (a.len rows) (a2w false K op)|false=>False
 | .em,.em,K=>match a4t (ty t).kind with|true=>a2w true K op|false=>False
 | .ag xs,.ag ys,K=>match a1Q xs,a1Q ys with
  | some ds,some es=>match a2o t (.ag ds) with
   | true=>match a2o t (.ag es) with|true=>a2w (a.deq ds es) K op|false=>False
   | false=>False
  | _,_=>False
 | _,_,_=>False
def unV (a:Ar):UnOp->V->(V->Prop)->Prop
 | .not,.d (.sc (.bool b)),K=>K (vb (a1O b))
 | .neg,.d (.sc (.int k n)),K=>K (vi k (a.wrap k (a.sub 0 n)))
 | _,_,_=>False
def b91:Value->Option UInt8
 | .int k n=>match keq k .u8 with|true=>some (UInt8.ofNat n.toNat)|false=>none
 | _=>none
def b3n:List D->Option UInt8
 | [.sc v]=>b91 v
 | _=>none
def a5g:List (List D)->Option (List UInt8)
 | []=>some []
 | r::l=>match b3n r with
  | some c=>match a5g l with|some t=>some (c::t)|none=>none
  | none=>none
def a9q (rows:List (List D)):Option ByteArray:=match a5g rows with|some l=>some ⟨⟨l⟩⟩|none=>none
def a8q (s:ByteArray):List (List D):=s.data.toList.map λc=>[.sc (.int .u8 (c.toNat:Int))]
def b3o (a:Ar) (K:V->Prop) (k:IntKind):V->Prop
 | .d (.sc (.int _ n))=>K (vi k (a.wrap k n))
 | _=>False
def b9Q (K:V->Prop):Option ByteArray->Prop
 | some s=>K (vs s)
 | none=>False
def b0z:TK->Bool
 | .str=>true
 | _=>false
def b3p (a:Ar) (K:V->Prop) (b:Bool):V->Prop
 | .d (.sc (.string s))=>K (vs s)
 | .d (.sl _ rows)=>match b with|true=>b9Q K (a.txt rows)|false=>False
 | .em=>match b with|true=>K (vs ⟨⟨[]⟩⟩)|false=>False
 | _=>False
def b3q (a:Ar) (K:V->Prop) (b:Bool):V->Prop
 | .d (.sc (.string s))=>match b with|true=>K (.d (.sl 1 (a.byt s)))|false=>False
 | _=>False
def a5O (a:Ar) (K:V->Prop) (k0 k:TK) (x:V):Prop:=match k with
 | .int j=>b3o a K j x
 | .str=>b3p a K (a4t k0) x
 | .slice=>b3q a K (b0z k0) x
 | _=>False
def a11:Bool->List V->Option V
 | true,l=>some (.ag l)
 | false,[x]=>some x
 | false,_=>none
def T4 (g:Operand->V) (place:List (Nat×Nat)):List (Nat×Operand)->List V->Option (List V)
 | [],l=>some l
 | (i,x)::ps,l=>match G8 1 (K3 i place) with
  | some [(off,sz)]=>match a0Q (g x) with
   | some cs=>match B8 (m9 cs) sz with
    | true=>match splice l off cs with
     | some l'=>T4 g place ps l'
     | none=>none
    | false=>none
   | none=>none
  | _=>none
def places (sz:Nat):Nat->Nat->List (Nat×Nat)
 | 0,_=>[]
 | n+1,off=>(off,sz)::places sz n (off+sz)
def a2x (z:List V):Nat->List V->List V
 | 0,acc=>acc
 | n+1,acc=>a2x z n (z++acc)
def a0R (sz:Nat):Nat->List D->Option (List (List D))
 | 0,[]=>some []
 | 0,_::_=>none
 | n+1,l=>match G8 sz l with
  | some r=>match a0R sz n (K3 sz l) with
   | some rs=>some (r::rs)
   | none=>none
  | none=>none
def b4L (a:Ar) (os:List O) (K:V->Prop):V->Prop
 | .d (.sl _ rows)=>K (vi .i64 (a.len rows))
 | .em=>K (vi .i64 0)
 | .own k=>match m5 os k with|.row _ _ rows=>K (vi .i64 (a.len rows))|_=>False
 | .bs _ n=>K (vi .i64 (.ofNat n))
 | _=>False
def b4M (a:Ar) (K:V->Prop):V->Prop
 | .d (.sc (.string x))=>K (vi .i64 (a.slen x))
 | _=>False
def lenV (a:Ar) (os:List O) (K:V->Prop) (k:TK) (x:V):Prop:=match k with
 | .slice=>b4L a os K x
 | .str=>b4M a K x
 | _=>False
def I5 (os:List O):V->Option (Option Nat×List (List D))
 | .d (.sl sz rows)=>some (some sz,rows)
 | .em=>some (none,[])
 | .own k=>match m5 os k with|.row true e rows=>some (some (ty e).sz,rows)|_=>none
 | _=>none
def b8r (sz:Nat):Option Nat->Bool
 | none=>true
 | some n=>B8 n sz
def a6h (os:List O):V->Option (Nat×Nat×List (List D))
 | .own k=>match m5 os k with|.row false e rows=>some (k,e,rows)|_=>none
 | _=>none
def T5 (K:V->Prop) (o:Nat):V->Prop
 | .ptr k off=>K (.ptr k (off+o))
 | .el k i sz off=>K (.el k i sz (off+o))
 | .ro cs off=>K (.ro cs (off+o))
 | _=>False
def bsV:V->Option (Nat×Nat)
 | .bs k n=>some (k,n)
 | _=>none
def o8 (a:Ar) (os:List O) (K:V->Prop) (t:Nat) (x i:V):Prop:=match i with
  | .d (.sc (.int _ n))=>match (ty t).kind with
   | .array=>match (ty t).val with
    | some e=>match a.nat n (ty t).alen with
      | some j=>T5 K (j * (ty e).sz) x
      | none=>False
    | none=>False
   | _=>match (ty t).elem with
    | some e=>match bsV x with
     | some (k,m)=>match a.nat n m with|some j=>K (.ptr k (j * (ty e).sz))|none=>False
     | none=>match a6h os x with
       | some (k,e',rows)=>match B8 e' e with
        | true=>match a.get rows n with|some _=>K (.el k n (ty e).sz 0)|none=>False
        | false=>False
       | none=>match I5 os x with
        | some (some sz,rows)=>match B8 sz (ty e).sz with
          | true=>match a.get rows n with|some row=>K (.ro row 0)|none=>False
          | false=>False
        | _=>False
    | none=>False
  | _=>False
def B1 (a:Ar) (os:List O) (K:V->Prop) (t:Nat):V->Prop
 | .ptr k off=>match m5 os k with
  | .box cs=>match G8 (ty t).sz (K3 off cs) with
   | some l=>match a11 (ty t).agg l with|some x=>K x|none=>False
   | none=>False
  | _=>False
 | .ro cs off=>match G8 (ty t).sz (K3 off cs) with
  | some l=>match a11 (ty t).agg (ofD l) with|some x=>K x|none=>False
  | none=>False
 | .el k i sz off=>match m5 os k with
  | .row _ e rows=>match B8 (ty e).sz sz with
   | true=>match a.get rows i with
    | some row=>match G8 (ty t).sz (K3 off row) with
     | some l=>match a11 (ty t).agg (ofD l) with|some x=>K x|none=>False
     | none=>False
    | none=>False
   | false=>False
  | _=>False
 | _=>False
def M7 (K:V->Prop) (t i:Nat) (x:V):Prop:=match G8 1 (K3 i (ty t).flds) with
 | some [(off,_+1)]=>match x with
  | .ptr k o=>K (.ptr k (o+off))
  | .ro cs o=>K (.ro cs (o+off))
  | .el k i sz o=>K (.el k i sz (o+off))
  | _=>False
 | _=>False
def b00 (K:V->Prop) (t i:Nat) (x:V):Prop:=match G8 1 (K3 i (ty t).fty),G8 1 (K3 i (ty t).flds),x with
 | some [u],some [(off,_)],.ag cs=>match G8 (ty u).sz (K3 off cs) with
  | some l=>match a11 (ty u).agg l with|some x=>K x|none=>False
  | none=>False
 | _,_,_=>False
def I6 (g:Operand->V):List Operand->List V
 | []=>[]
 | x::l=>g x::I6 g l
def callV (a:Ar) (os:List O) (K:V->Prop) (f:Nat) (vs:List V):Prop:=match a0A os vs with
 | some rs=>a.call f rs (λq=>K (a2v q))
 | none=>a.calld f vs os K
def P3 (g:Operand->V):Option Operand->Option V
 | none=>none
 | some x=>some (g x)
def a4u (n:Int):Option V->Option Int
 | none=>some n
 | some (.d (.sc (.int _ n)))=>some n
 | _=>none
def a2y (a:Ar) (os:List O) (K:V->Prop) (t:Nat) (x:V) (lo hi:Option V):Prop:=match a4u 0 lo with
 | some l=>match (ty t).kind with
  | .str=>match x with
   | .d (.sc (.string b))=>match a4u (a.slen b) hi with
    | some h=>match a.ssub b l h with|some c=>K (vs c)|none=>False
    | none=>False
   | _=>False
  | .slice=>match (ty t).elem with
   | some e=>match I5 os x with
    | some (sz,rows)=>match b8r (ty e).sz sz with
     | true=>match a4u (a.len rows) hi with
      | some h=>match a.sub2 rows l h with|some rs=>K (.d (.sl (ty e).sz rs))|none=>False
      | none=>False
     | false=>False
    | none=>False
   | none=>False
  | _=>False
 | none=>False
def a2z (a:Ar) (K:V->Prop) (t:Nat):V->V->Prop
 | .ag cs,.d (.sc (.int _ n))=>match (ty t).kind with
  | .array=>match (ty t).val with
   | some e=>match a.nat n (ty t).alen with
    | some j=>match G8 (ty e).sz (K3 (j * (ty e).sz) cs) with
     | some l=>match a11 (ty e).agg l with|some x=>K x|none=>False
     | none=>False
    | none=>False
   | none=>False
  | _=>False
 | .d (.sc (.string b)),.d (.sc (.int _ n))=>match (ty t).kind with
  | .str=>match a.sget b n with|some c=>K (vi .u8 c)|none=>False
  | _=>False
 | _,_=>False
def a1R (g:Operand->V) (K:V->Prop) (t:Nat) (ps:List (Nat×Operand)):Prop:=match (ty t).kind with
 | .struct=>match T4 g (ty t).flds ps (A6 (ty t).zero) with
  | some l=>K (.ag l)
  | none=>False
 | .array=>match (ty t).val with
  | some e=>match T4 g (places (ty e).sz (ty t).alen 0) ps (A6 (ty t).zero) with
   | some l=>K (.ag l)
   | none=>False
  | none=>False
 | _=>False
def B2 (g:Operand->V) (os:List O) (K:V->Prop) (t n:Nat) (ps:List (Nat×Operand)):Prop:=match (ty t).elem with
 | some e=>match n with
  | 0=>False
  | n+1=>match T4 g (places (ty e).sz (n+1) 0) ps (a2x (A6 (ty e).zero) (n+1) []) with
   | some l=>match a2n os l with
    | some ds=>match a0R (ty e).sz (n+1) ds with
     | some rows=>K (.d (.sl (ty e).sz rows))
     | none=>False
    | none=>False
   | none=>False
 | none=>False
def a21 (K:V->Prop) (i:Nat):V->Prop
 | .tu vs=>match G8 1 (K3 i vs) with|some [v]=>K v|_=>False
 | _=>False
def b01 (K:V->Prop) (x y:V):V->Prop
 | .d (.sc (.bool b))=>K (match b with|true=>x|false=>y)
 | _=>False
def b02:List V->Option (List Nat)
 | []=>some []
 | .ptr k 0::l=>match b02 l with|some ks=>some (k::ks)|none=>none
 | _=>none
def rEq:R->R->Bool
 | .one x,.one y=>dEq x y
 | .ag xs,.ag ys=>b2d xs ys
 | _,_=>false
def a1u:List (R×R)->R->Option R
 | [],_=>none
 | (k,v)::l,r=>match rEq k r with|true=>some v|false=>a1u l r
def a0y:List (R×R)->R->R->List (R×R)
 | [],r,q=>[(r,q)]
 | (k,v)::l,r,q=>match rEq k r with|true=>(k,q)::l|false=>(k,v)::a0y l r q
def b8s (os:List O) (t:Nat) (x:V):Option R:=match toR os x with
 | some r=>match a2o t r with|true=>some r|false=>none
 | none=>none
def a9r (K:V->Prop) (ok b:Bool) (x:V):Prop:=match ok with|true=>K (.tu [x,vb b])|false=>K x
def b03 (K:V->Prop) (ok:Bool) (e:Nat):Prop:=match a11 (ty e).agg (A6 (ty e).zero) with
 | some z=>a9r K ok false z
 | none=>False
def a5P (a:Ar) (os:List O) (K:V->Prop) (t:Nat) (ok:Bool) (x i:V):Prop:=match (ty t).kind with
 | .map=>match (ty t).key,(ty t).val with
  | some kt,some e=>match b8s os kt i with
   | some r=>match x with
    | .mp k=>match m5 os k with
     | .mp kt' es=>match B8 kt' kt with
      | true=>match a.mlook es r with
       | some q=>a9r K ok true (b8q q)
       | none=>b03 K ok e
      | false=>False
     | _=>False
    | .d (.sc (.map none))=>b03 K ok e
    | _=>False
   | none=>False
  | _,_=>False
 | _=>False
def a9s (a:Ar) (K:V->Prop) (mx:Bool):List V->Prop
 | [.d (.sc (.int k x)),.d (.sc (.int k' y))]=>match keq k k' with
  | true=>match mx with
   | true=>K (vi k (match a.lt x y with|true=>y|false=>x))
   | false=>K (vi k (match a.lt y x with|true=>y|false=>x))
  | false=>False
 | _=>False
def nnV (K:V->Prop):V->Prop
 | .ptr k off=>K (.ptr k off)
 | .cl f ks=>K (.cl f ks)
 | .el k i sz off=>K (.el k i sz off)
 | .ro cs off=>K (.ro cs off)
 | _=>False
def fnV:V->Option (Nat×List Nat)
 | .cl f ks=>some (f,ks)
 | .d (.sc (.func (.func f) ⟨[]⟩ ⟨[]⟩))=>some (f,[])
 | _=>none
def a63:List Nat->List V
 | []=>[]
 | k::l=>.ptr k 0::a63 l
def a1S:List V->List V->List V
 | [],m=>m
 | x::l,m=>x::a1S l m
def a5h (a:Ar) (os:List O) (K:V->Prop) (x:V) (vs:List V):Prop:=match fnV x with
 | some (f,ks)=>callV a os K f (a1S vs (a63 ks))
 | none=>False
def stepC (a:Ar) (g:Operand->V) (os:List O) (K:V->Prop):Op->Prop
 | .move x=>K (g x)
 | .assign x=>K (g x)
 | .pick c x y=>b01 K (g x) (g y) (g c)
 | .load t x=>B1 a os K t (g x)
 | .fieldAddr t x i=>M7 K t i (g x)
 | .field t x i=>b00 K t i (g x)
 | .indexAddr t x i=>o8 a os K t (g x) (g i)
 | .index t x i=>a2z a K t (g x) (g i)
 | .binOp op t x y _=>a8h a op t (g x) (g y) K
 | .unOp op _ x=>unV a op (g x) K
 | .convert t0 t x=>a5O a K (ty t0).kind (ty t).kind (g x)
 | .build t ps=>a1R g K t ps.toList
 | .buildSlice t n ps=>B2 g os K t n ps.toList
 | .extract x i=>a21 K i (g x)
 | .slice t x lo hi none=>a2y a os K t (g x) (P3 g lo) (P3 g hi)
 | .call ⟨.builtin .len,⟨[x]⟩,⟨[t]⟩⟩=>lenV a os K (ty t).kind (g x)
 | .call ⟨.value (.func f),args,_⟩=>callV a os K f (I6 g args.toList)
 | .lookup t x i ok=>a5P a os K t ok (g x) (g i)
 | .call ⟨.builtin .min,args,_⟩=>a9s a K false (I6 g args.toList)
 | .call ⟨.builtin .max,args,_⟩=>a9s a K true (I6 g args.toList)
 | .nilCheck x=>nnV K (g x)
 | .makeFunc (.func f) ⟨[]⟩ cs=>match b02 (I6 g cs.toList) with|some ks=>K (.cl f ks)|none=>False
 | .call ⟨.value (.tmp i),args,_⟩=>a5h a os K (g (.tmp i)) (I6 g args.toList)
 | _=>False
def E3 (a:Ar) (s:S) (K:S->Prop) (t:Nat) (y:V):V->Prop
 | .ptr k off=>match m5 s.o k with
  | .box cs=>match a0Q y with
   | some l=>match B8 (m9 l) (ty t).sz with
    | true=>match splice cs off l with
     | some cs'=>K ⟨s.t,A2 s.o k (.box cs')⟩
     | none=>False
    | false=>False
   | none=>False
  | _=>False
 | .el k i sz off=>match m5 s.o k with
  | .row false e rows=>match B8 (ty e).sz sz with
   | true=>match a.get rows i with
    | some row=>match a0Q y with
     | some l=>match a2n s.o l with
      | some ds=>match B8 (m9 ds) (ty t).sz with
       | true=>match splice row off ds with
        | some row'=>K ⟨s.t,A2 s.o k (.row false e (a.set rows i row'))⟩
        | none=>False
       | false=>False
      | none=>False
     | none=>False
    | none=>False
   | false=>False
  | _=>False
 | _=>False
def A9 (a:Ar) (m:Bool) (s:S) (dst:Option Nat) (K:S->Prop) (t:Nat) (x y:V):Prop:=match (ty t).elem with
 | some e=>match I5 s.o y with
  | some (sz,ys)=>match b8r (ty e).sz sz with
   | true=>match x with
    | .em=>a.room [] ys (a.new e λz=>K ((s.fresh m (.row z e ys)).put dst (.own (j2 s.o))))
    | .own k=>match m5 s.o k with
     | .row z e' xs=>match B8 e' e with
      | true=>a.room xs ys (K (S.put ⟨G9 k s.t,A2 (y8 k s.o) k (.row z e (a.app xs ys))⟩ dst (.own k)))
      | false=>False
     | _=>False
    | _=>False
   | false=>False
  | none=>False
 | none=>False
def litV (a:Ar) (s:S) (dst:Option Nat) (K:S->Prop) (t n:Nat) (ps:List (Nat×Operand)):Prop:=match (ty t).elem with
 | some e=>B2 s.get s.o (λv=>match v with
  | .d (.sl _ rows)=>a.new e λz=>K ((s.obj (.row z e rows)).put dst (.own (j2 s.o)))
  | _=>False) t n ps
 | none=>False
def a9t (a:Ar) (s:S) (K:S->Prop) (t:Nat) (x i v:V):Prop:=match (ty t).kind with
 | .map=>match (ty t).key,x with
  | some kt,.mp k=>match b8s s.o kt i,toR s.o v,m5 s.o k with
   | some r,some q,.mp kt' es=>match B8 kt' kt with
    | true=>K ⟨s.t,A2 s.o k (.mp kt (a.mput es r q))⟩
    | false=>False
   | _,_,_=>False
  | _,_=>False
 | _=>False
def N1 (a:Ar) (s:S) (dst:Option Nat) (K:S->Prop) (t:Nat):V->V->Prop
 | .d (.sc (.int _ n)),.d (.sc (.int _ m))=>match a.eq n m with
  | true=>match (ty t).elem with
   | some e=>match a2n [] (A6 (ty e).zero) with
    | some z=>a.rep n z λrows=>a.new e λb=>K ((s.obj (.row b e rows)).put dst (.own (j2 s.o)))
    | none=>False
   | none=>False
  | false=>False
 | _,_=>False
def c2b:List Value->Bool
 | .pointer none::.slice none 0 0::_=>true
 | _=>false
def a6i (e:Nat):O:=match c2b (ty e).zero with|true=>.ob e (ty e).zero|false=>.box (A6 (ty e).zero)
def step (a:Ar) (m:Bool) (s:S) (dst:Option Nat) (K:S->Prop):Op->Prop
 | .alloc e=>match a2u (A6 (ty e).zero) with
  | true=>K ((s.obj (a6i e)).put dst (.ptr (j2 s.o) 0))
  | false=>False
 | .box _ x=>match a0Q (s.get x) with
  | some cs=>K ((s.obj (.box cs)).put dst (.ptr (j2 s.o) 0))
  | none=>False
 | .store t x y=>match dst with
  | none=>E3 a s K t (s.get y) (s.get x)
  | some _=>False
 | .makeSlice t x y=>N1 a s dst K t (s.get x) (s.get y)
 | .makeMap t none=>match (ty t).kind with
  | .map=>match (ty t).key with
   | some kt=>K ((s.obj (.mp kt [])).put dst (.mp (j2 s.o)))
   | none=>False
  | _=>False
 | .mapUpdate t x i v=>match dst with
  | none=>a9t a s K t (s.get x) (s.get i) (s.get v)
  | some _=>False
 | .buildSlice t 0 ⟨[]⟩=>match (ty t).elem with
  | some e=>a.new e λz=>K ((s.fresh m (.row z e [])).put dst (.own (j2 s.o)))
  | none=>False
 | .call ⟨.builtin .append,⟨[x,y]⟩,⟨[t,_]⟩⟩=>A9 a m s dst K t (s.get x) (s.get y)
 | .buildSlice t (n+1) ps=>match m with
  | true=>a.lit t λc=>match c with
   | true=>stepC a s.get s.o (λv=>K (s.put dst v)) (.buildSlice t (n+1) ps)
   | false=>litV a s dst K t (n+1) ps.toList
  | false=>stepC a s.get s.o (λv=>K (s.put dst v)) (.buildSlice t (n+1) ps)
 | .call ⟨.value (.func f),args,ts⟩=>match m with
  | true=>a.callo f (I6 s.get args.toList) s (λv s'=>K (s'.put dst v))
  | false=>stepC a s.get s.o (λv=>K (s.put dst v)) (.call ⟨.value (.func f),args,ts⟩)
 | .call ⟨.value (.tmp i),args,ts⟩=>match m with
  | true=>match fnV (m8 s.t i) with
   | some (f,ks)=>a.callo f (a1S (I6 s.get args.toList) (a63 ks)) s (λv s'=>K (s'.put dst v))
   | none=>False
  | false=>stepC a s.get s.o (λv=>K (s.put dst v)) (.call ⟨.value (.tmp i),args,ts⟩)
 | op=>stepC a s.get s.o (λv=>K (s.put dst v)) op
def getD:List (Option Nat)->Nat->Option Nat
 | [],_=>none
 | x::_,0=>x
 | _::l,n+1=>getD l n
def U7:V:=.tu []
def guard (s:S) (dsts:List (Option Nat)) (j:Nat) (K:Option Bool->Prop):Prop:=match getD dsts j with
 | some d=>match m8 s.t d with
  | .d (.sc (.bool c))=>K (some c)
  | .tu []=>K none
  | _=>False
 | none=>False
def l8:List Oper->List (Option Nat)
 | []=>[]
 | o::l=>o.dst::l8 l
def run (a:Ar) (m:Bool) (dsts:List (Option Nat)):List Oper->S->(S->Prop)->Prop
 | [],s,K=>K s
 | ⟨dst,op,_,_,_,none⟩::l,s,K=>step a m s dst (λs=>run a m dsts l s K) op
 | ⟨dst,op,_,_,_,some (j,b)⟩::l,s,K=>guard s dsts j fun
  | some c=>match bEq c b with
   | true=>step a m s dst (λs=>run a m dsts l s K) op
   | false=>run a m dsts l (s.put dst U7) K
  | none=>run a m dsts l (s.put dst U7) K
def b92:List O->Bool
 | []=>false
 | .it _::_=>true
 | _::l=>b92 l
def c2c:V->Bool
 | .bs _ _=>true
 | _=>false
def c1b (os:List O):V->Bool
 | .own k=>match m5 os k with|.it _=>true|_=>false
 | _=>false
def b93 (os:List O):List V->Bool
 | []=>false
 | x::l=>match c1b os x with|true=>true|false=>b93 os l
def b6c (s:S):List (Nat×Operand)->Bool
 | []=>false
 | (_,x)::l=>match (match s.get x with|.ag cs=>b93 s.o cs|v=>c1b s.o v) with|true=>true|false=>b6c s l
def c2d (s:S):Op->Bool
 | .call ⟨.builtin .append,⟨[_,y]⟩,_⟩=>c2c (s.get y)
 | .buildSlice _ (_+1) ps=>b6c s ps.toList
 | .convert t0 t _=>match a4t (ty t0).kind with|true=>a4t (ty t).kind|false=>false
 | _=>false
def step1 (a:Ar) (s:S) (dst:Option Nat) (K:S->Prop) (op:Op):Prop:=match c2d s op with
 | true=>a.ext op dst s K
 | false=>step a true s dst K op
def a0z (a:Ar) (dsts:List (Option Nat)):List Oper->S->(S->Prop)->Prop
 | [],s,K=>K s
 | ⟨dst,op,_,_,_,none⟩::l,s,K=>step1 a s dst (λs=>a0z a dsts l s K) op
 | ⟨dst,op,_,_,_,some (j,b)⟩::l,s,K=>guard s dsts j fun
  | some c=>match bEq c b with
   | true=>step1 a s dst (λs=>a0z a dsts l s K) op
   | false=>a0z a dsts l (s.put dst U7) K
  | none=>a0z a dsts l (s.put dst U7) K
def b04 (N:S->Prop) (K:X->S->Prop):X->S->Prop
 | .normal,s=>N s
 | .exit i,s=>K (.exit i) s
 | .ret,s=>K .ret s
def a1v (id:Nat) (K:X->S->Prop):X->S->Prop
 | .normal,s=>K .normal s
 | .exit i,s=>match B8 i id with|true=>K .normal s|false=>K (.exit i) s
 | .ret,s=>K .ret s
def upN:List Nat->Nat->Nat->Nat
 | k::_,_,0=>k
 | _::l,n,j+1=>upN l n j
 | [],n,j=>n+j
def upK (ks:List Nat) (n:Nat):List Nat->List Nat
 | []=>[]
 | j::l=>upN ks n j::upK ks n l
def up1 (ks:List Nat) (n:Nat):V->V
 | .own j=>.own (upN ks n j)
 | .ptr j off=>.ptr (upN ks n j) off
 | .cl f l=>.cl f (upK ks n l)
 | .el j i sz off=>.el (upN ks n j) i sz off
 | .mp j=>.mp (upN ks n j)
 | .bs j m=>.bs (upN ks n j) m
 | .ag _=>.jk
 | .tu _=>.jk
 | x=>x
def upL (ks:List Nat) (n:Nat):List V->List V
 | []=>[]
 | x::l=>up1 ks n x::upL ks n l
def up2 (ks:List Nat) (n:Nat):V->V
 | .ag cs=>.ag (upL ks n cs)
 | .tu []=>.tu []
 | x=>up1 ks n x
def upT (ks:List Nat) (n:Nat):List V->List V
 | []=>[]
 | x::l=>up2 ks n x::upT ks n l
def upO (ks:List Nat) (n:Nat):O->O
 | .box cs=>.box (upL ks n cs)
 | .kl _=>.dead
 | x=>x
def a0B (ks:List Nat) (n:Nat):List O->List O
 | []=>[]
 | x::l=>upO ks n x::a0B ks n l
def b4P:List O->List O->List O
 | [],m=>m
 | x::l,m=>x::b4P l m
def I7:List Nat->List O->List O->List O
 | k::ks,x::os,l=>I7 ks os (A2 l k x)
 | _,os,l=>b4P l os
def z6:List Nat->List V->List V
 | [],t=>t
 | k::ks,t=>z6 ks (G9 k t)
def P4:List Nat->List O->List O
 | [],l=>l
 | k::ks,l=>P4 ks (y8 k l)
def a1T (ks:List Nat) (os:List O) (s:S):S:=⟨z6 ks s.t,I7 ks (a0B ks (j2 s.o) os) (P4 ks s.o)⟩
def a8i (k:Nat):List Nat->Bool
 | []=>false
 | j::l=>match B8 j k with|true=>true|false=>a8i k l
def a22:List Nat->Bool
 | []=>true
 | k::l=>match a8i k l with|true=>false|false=>a22 l
def pick:List Nat->List O->List O
 | [],_=>[]
 | k::ks,l=>m5 l k::pick ks l
def b6d:List O->Bool
 | []=>true
 | .dead::_=>false
 | .kl _::_=>false
 | _::l=>b6d l
def b9S (o:List O) (k:Nat):List O:=match m5 o k with
 | .row _ e rows=>A2 o k (.row true e rows)
 | _=>o
def frz:List Nat->List O->List O
 | [],o=>o
 | k::ks,o=>frz ks (b9S o k)
def b3s:Nat->Nat->List Nat->Bool
 | _,0,_=>true
 | j,n+1,k::l=>match B8 j k with|true=>b3s (j+1) n l|false=>false
 | _,_+1,[]=>false
def a23:List V->V
 | [v]=>v
 | vs=>.tu vs
end Go.Proofs.YtlofmibkljoapaaDoor.Vm
end
section
namespace Go.Proofs.YtlofmibkljoapaaDoor
open Go.RowKit
set_option maxRecDepth 100000
set_option maxHeartbeats 4000000
section
def gb (l:List Int) (i:Nat):Int:=l.getD i 0
def a3l (w:World) (k:IntKind) (b off:Nat) (l:List Int):Prop:=∀i,i<l.length->w.cell? ⟨b,off+i,none⟩=some (.int k (gb l i))
def a4v (w:World) (k:IntKind) (A:Option Addr) (l:List Int):Prop:=l=[]\/∃b off,A=some ⟨b,off,none⟩/\b<w.heap.size/\a3l w k b off l
section
variable {w w':World} {k:IntKind} {b off:Nat} {l:List Int} {A:Option Addr}
theorem a3l.drewN (h:a3l w k b off l) (n:Nat):a3l (w.drewN n) k b off l:=h
theorem a4v.drewN (h:a4v w k A l) (n:Nat):a4v (w.drewN n) k A l:=h
theorem a4v.cells (h:a4v w k A l) (hl:0<l.length):∃b off,A=some ⟨b,off,none⟩/\b<w.heap.size/\a3l w k b off l:=by
 rcases h with rfl|h
 ·simp at hl
 ·exact h
end
end
section
def Blk (w:World) (g:Nat) (t:TypeId) (cs:Array Value):Prop:=w.heap[g]?=some (.cells cs t (0,0))
section
variable {w w':World} {g:Nat} {t:TypeId} {cs:Array Value}
theorem Blk.cell (h:Blk w g t cs) (i:Nat):w.cell? ⟨g,i,none⟩=cs[i]?:=cell_of_row w g i cs t (0,0) h
theorem Blk.drewN (h:Blk w g t cs) (n:Nat):Blk (w.drewN n) g t cs:=h
end
def a9u (w:World) (g:Nat) (t:TypeId) (k:IntKind) (l:List Int):Prop:=Blk w g t (l.map (Value.int k)).toArray
section
variable {w w':World} {g:Nat} {t:TypeId} {k:IntKind} {l:List Int}
theorem a9u.cell (h:a9u w g t k l) {i:Nat} (hi:i<l.length):w.cell? ⟨g,i,none⟩=some (.int k (gb l i)):=by
 rw[Blk.cell h i]
 simp[gb,hi]
theorem a9u.cells (h:a9u w g t k l):a3l w k g 0 l:=λi hi=>by rw[c3v];exact h.cell hi
end
end
section
section
variable {P:Program} (w:World)
end
section
variable {w w':World} {base:Nat} {t:TypeId} {k:IntKind} {v:Value} {ps:List Int}
end
end
section
section
variable {P:Program} (w:World)
def b6e (w:World) (A:Option Addr) (m size:Nat) (ys:List Value):Prop:=ys.length=m * size/\(A=none->m=0)/\(∀ad,A=some ad->∀j u,ys[j]?=some u->w.cell? (ad.add j)=some u)/\∀u∈ys,u.oneCell'=true
end
end
end Go.Proofs.YtlofmibkljoapaaDoor
end
section
namespace Go.Proofs.YtlofmibkljoapaaDoor.Vm
open Go.RowKit
set_option maxRecDepth 100000
set_option maxHeartbeats 4000000
def Up (I:Nat->Nat->Prop) (b n:Nat):Prop:=∃h,n<=h/\I b h
theorem Up.mono {I I':Nat->Nat->Prop} (hI:∀b h,I b h->I' b h) {b n:Nat} (h:Up I b n):Up I' b n:=by
 obtain⟨k,h1,h2⟩:=h;exact⟨k,h1,hI _ _ h2⟩
theorem Up.down {I:Nat->Nat->Prop} {b n m:Nat} (h:Up I b n) (hm:m<=n):Up I b m:=by
 obtain⟨k,h1,h2⟩:=h;exact⟨k,c3E hm h1,h2⟩
inductive AtD (I:Nat->Nat->Prop) (w:World):Value->D->Prop
 | sc (v:Value) (h:v.oneCell'=true):AtD I w v (.sc v)
 | nil (A:Option Addr) (cap sz:Nat):AtD I w (.slice A 0 cap) (.sl sz [])
 | sl (b off cap sz:Nat) (rows:List (List D)) (us:List Value) (hcap:rows.length<=cap) (hI:Up I b (off+rows.length * sz)) (hr:∀r∈rows,r.length=sz) (hl:us.length=rows.length * sz)
   (hc:∀i u,us[i]?=some u->w.cell? ⟨b,off+i,none⟩=some u) (hd:∀(i:Nat) (u:Value) (d:D),us[i]?=some u->rows.flatten[i]?=some d->AtD I w u d) :
   AtD I w (.slice (some ⟨b,off,none⟩) rows.length cap) (.sl sz rows)
def n7 (I:Nat->Nat->Prop) (w w':World):Prop:=∀b h,I b h->∀i,i<h->w'.cell? ⟨b,i,none⟩=w.cell? ⟨b,i,none⟩
theorem n7.trans {I:Nat->Nat->Prop} {w1 w2 w3:World} (h:n7 I w1 w2) (h2:n7 I w2 w3):n7 I w1 w3:=λb k hb i hi=>(h2 b k hb i hi).trans (h b k hb i hi)
theorem n7.refl (I:Nat->Nat->Prop) (w:World):n7 I w w:=λ_ _ _ _ _=>rfl
theorem AtD.mono {I I':Nat->Nat->Prop} {w w':World} (hI:∀b h,I b h->I' b h) (hk:n7 I w w') {v:Value} {d:D} (h:AtD I w v d):AtD I' w' v d:=by
 induction h with
 | sc v h=>exact .sc v h
 | nil A cap sz=>exact .nil A cap sz
 | sl b off cap sz rows us hcap hi hr hl hc _ ih =>
  refine .sl b off cap sz rows us hcap (hi.mono hI) hr hl (λi u hu=>?_) ih;have hlt:i<rows.length * sz:=by rw[<-hl];exact(c25.1 hu).1
  obtain⟨k,hk1,hk2⟩:=hi;exact(hk _ _ hk2 _ (by omega)).trans (hc i u hu)
theorem AtD.one {I:Nat->Nat->Prop} {w:World} {v:Value} {d:D} (h:AtD I w v d):v.oneCell'=true:=by
 cases h with
 | sc v h=>exact h
 | nil=>rfl
 | sl=>rfl
theorem a0l {α:Type} {sz:Nat}:∀ {rows:List (List α)},(∀r∈rows,r.length=sz)->rows.flatten.length=rows.length * sz
 | [],_=>by simp
 | r::rows,h=>by
  rw[c3x,c29,h r (c27 ..),a0l λx hx=>h x (c26 _ hx),c2D,c3N];omega
theorem K6 {α:Type} {sz:Nat}:∀ {rows:List (List α)},(∀r∈rows,r.length=sz)->∀ {i j:Nat} {r:List α},rows[i]?=some r->j<sz->rows.flatten[i * sz+j]?=r[j]?
 | [],_,i,j,r,hr,_=>by simp at hr
 | s::rows,h,0,j,r,hr,hj=>by
  simp at hr
  subst hr;rw[c3x,c2R (by rw[h s (c27 ..)];omega)]
  simp
 | s::rows,h,i+1,j,r,hr,hj=>by
  have hr':rows[i]?=some r:=by simpa using hr
  rw[c3x,c2P (by rw[h s (c27 ..),c3N];omega),<-K6 (λx hx=>h x (c26 _ hx)) hr' hj]
  congr 1
  rw[h s (c27 ..),c3N];omega
def s8 (I:Nat->Nat->Prop) (w:World) (us:List Value) (ds:List D):Prop:=us.length=ds.length/\∀(i:Nat) (u:Value) (d:D),us[i]?=some u->ds[i]?=some d->AtD I w u d
theorem s8.mono {I I':Nat->Nat->Prop} {w w':World} (hI:∀b h,I b h->I' b h) (hk:n7 I w w') {us:List Value} {ds:List D} (h:s8 I w us ds):s8 I' w' us ds :=
 ⟨h.1,λi u d hu hd=>(h.2 i u d hu hd).mono hI hk⟩
theorem s8.nil (I:Nat->Nat->Prop) (w:World):s8 I w [] []:=⟨rfl,λi u d h=>by simp at h⟩
theorem s8.cons {I:Nat->Nat->Prop} {w:World} {u:Value} {d:D} {us:List Value} {ds:List D} (h:AtD I w u d) (hs:s8 I w us ds):s8 I w (u::us) (d::ds) :=
 ⟨by simp[hs.1],λi x y hx hy=>by
  cases i with
  | zero=>simp at hx hy;subst hx;subst hy;exact h
  | succ i=>exact hs.2 i x y (by simpa using hx) (by simpa using hy)⟩
theorem s8.uncons {I:Nat->Nat->Prop} {w:World} {us:List Value} {d:D} {ds:List D} (h:s8 I w us (d::ds)):∃u us',us=u::us'/\AtD I w u d/\s8 I w us' ds:=by
 cases us with
 | nil=>have:=h.1;simp at this
 | cons u us=>exact⟨u,us,rfl,h.2 0 u d rfl rfl,by have:=h.1;simpa using this,λi x y hx hy=>h.2 (i+1) x y (by simpa using hx) (by simpa using hy)⟩
theorem s8.one {I:Nat->Nat->Prop} {w:World} {us:List Value} {ds:List D} (h:s8 I w us ds):∀u∈us,u.oneCell'=true:=by
 intro u hu;obtain⟨i,hi⟩:=c2Z.1 hu;have hlt:i<ds.length:=by rw[<-h.1];exact(c25.1 hi).1
 exact(h.2 i u _ hi (c28 hlt)).one
theorem s8.drop {I:Nat->Nat->Prop} {w:World} {us:List Value} {ds:List D} (h:s8 I w us ds) (n:Nat):s8 I w (us.drop n) (ds.drop n) :=
 ⟨by simp[h.1],λi u d hu hd=>h.2 (n+i) u d (by rw[<-c3e];exact hu) (by rw[<-c3e];exact hd)⟩
theorem s8.take {I:Nat->Nat->Prop} {w:World} {us:List Value} {ds:List D} (h:s8 I w us ds) (n:Nat):s8 I w (us.take n) (ds.take n) :=
 ⟨by simp[h.1],λi u d hu hd=>by
  rw[c3g] at hu hd
  split at hu
  ·rw[c2E (by assumption)] at hd;exact h.2 i u d hu hd
  ·cases hu⟩
theorem s8.append {I:Nat->Nat->Prop} {w:World} {us us':List Value} {ds ds':List D} (h:s8 I w us ds) (h':s8 I w us' ds'):s8 I w (us++us') (ds++ds') :=
 ⟨by simp[h.1,h'.1],λi u d hu hd=>by
  by_cases hi:i<us.length
  ·rw[c2R hi] at hu;rw[c2R (by rw[<-h.1];exact hi)] at hd;exact h.2 i u d hu hd
  ·rw[c2P (by omega)] at hu;rw[c2P (by rw[<-h.1];omega),<-h.1] at hd
   exact h'.2 _ u d hu hd⟩
theorem AtD.slice {I:Nat->Nat->Prop} {w:World} {v:Value} {sz:Nat} {rows:List (List D)} (h:AtD I w v (.sl sz rows)):∃A cap,v=.slice A rows.length cap/\rows.length<=cap/\(rows=[]\/∃b off us,A=some ⟨b,off,none⟩/\Up I b (off+rows.length * sz)/\(∀r∈rows,r.length=sz) /\
  us.length=rows.length * sz/\(∀i u,us[i]?=some u->w.cell? ⟨b,off+i,none⟩=some u)/\s8 I w us rows.flatten):=by
 cases h with
 | nil A cap sz=>exact⟨A,cap,rfl,c3d _,.inl rfl⟩
 | sl b off cap sz rows us hcap hI hr hl hc hd=>exact⟨_,cap,rfl,hcap,.inr ⟨b,off,us,rfl,hI,hr,hl,hc,by rw[hl,a0l hr],hd⟩⟩
def W6 (v:Value) (F:List Nat):Value:=.tuple (v::F.map λb=>.pointer (some ⟨b,0,none⟩)).toArray
def gv:Value->Value
 | .tuple us=>us.getD 0 .nilFunc
 | v=>v
inductive AtV (I:Nat->Nat->Prop) (w:World) (g:Nat->Value):Value->V->Prop
 | d {v:Value} {x:D} (h:AtD I w v x):AtV I w g v (.d x)
 | ag (us:List Value) (cs:List V) (hl:us.length=cs.length) (h:∀(i:Nat) (u:Value) (c:V),us[i]?=some u->cs[i]?=some c->AtV I w g u c):AtV I w g (.agg us.toArray) (.ag cs)
 | tu (us:List Value) (cs:List V) (hl:us.length=cs.length) (h:∀(i:Nat) (u:Value) (c:V),us[i]?=some u->cs[i]?=some c->AtV I w g u c):AtV I w g (.tuple us.toArray) (.tu cs)
 | em:AtV I w g (.slice none 0 0) .em
 | own (k:Nat) (A:Option Addr) (n cap:Nat) (h:gv (g k)=.slice A n cap):AtV I w g (.slice A n cap) (.own k)
 | ptr (k off b:Nat) (h:g k=.pointer (some ⟨b,0,none⟩)):AtV I w g (.pointer (some ⟨b,off,none⟩)) (.ptr k off)
 | cl (f:Nat) (us:List Value) (ks:List Nat) (hl:us.length=ks.length) (h:∀(i:Nat) (u:Value) (k:Nat),us[i]?=some u->ks[i]?=some k->u=g k/\∃b,g k=.pointer (some ⟨b,0,none⟩)):AtV I w g (.func (.func f) #[] us.toArray) (.cl f ks)
 | el (k:Nat) (i:Int) (sz off b n cap:Nat) (h:g k=.slice (some ⟨b,0,none⟩) n cap):AtV I w g (.pointer (some ⟨b,i.toNat * sz+off,none⟩)) (.el k i sz off)
 | ro (b o off:Nat) (us:List Value) (cs:List D) (hI:Up I b (o+cs.length)) (hc:∀i u,us[i]?=some u->w.cell? ⟨b,o+i,none⟩=some u) (hd:s8 I w us cs):AtV I w g (.pointer (some ⟨b,o+off,none⟩)) (.ro cs off)
 | mp (k b:Nat) (h:g k=.map (some b)):AtV I w g (.map (some b)) (.mp k)
 | bs (k n b cap:Nat) (h:g k=.pointer (some ⟨b,0,none⟩)) (hn:n<=cap):AtV I w g (.slice (some ⟨b,0,none⟩) n cap) (.bs k n)
 | jk (v:Value):AtV I w g v .jk
theorem AtV.mono {I I':Nat->Nat->Prop} {w w':World} {g:Nat->Value} (hI:∀b h,I b h->I' b h) (hk:n7 I w w') {v:Value} {x:V} (h:AtV I w g v x):AtV I' w' g v x:=by
 induction h with
 | d h=>exact .d (h.mono hI hk)
 | ag us cs hl _ ih=>exact .ag us cs hl ih
 | tu us cs hl _ ih=>exact .tu us cs hl ih
 | em=>exact .em
 | own k A n cap h=>exact .own k A n cap h
 | ptr k off b h=>exact .ptr k off b h
 | cl f us ks hl h=>exact .cl f us ks hl h
 | el k i sz off b n cap h=>exact .el k i sz off b n cap h
 | ro b o off us cs hi hc hd =>
  refine .ro b o off us cs (hi.mono hI) (λi u hu=>?_) (hd.mono hI hk);have hlt:i<cs.length:=by rw[<-hd.1];exact(c25.1 hu).1
  obtain⟨k,hk1,hk2⟩:=hi;exact(hk _ _ hk2 _ (by omega)).trans (hc i u hu)
 | mp k b h=>exact .mp k b h
 | bs k n b cap h hn=>exact .bs k n b cap h hn
 | jk v=>exact .jk v
def f9 (I:Nat->Nat->Prop) (w:World) (g:Nat->Value) (us:List Value) (cs:List V):Prop:=us.length=cs.length/\∀(i:Nat) (u:Value) (c:V),us[i]?=some u->cs[i]?=some c->AtV I w g u c
theorem f9.mono {I I':Nat->Nat->Prop} {w w':World} {g:Nat->Value} (hI:∀b h,I b h->I' b h) (hk:n7 I w w') {us:List Value} {cs:List V} (h:f9 I w g us cs):f9 I' w' g us cs :=
 ⟨h.1,λi u d hu hd=>(h.2 i u d hu hd).mono hI hk⟩
theorem f9.nil (I:Nat->Nat->Prop) (w:World) (g:Nat->Value):f9 I w g [] []:=⟨rfl,λi u d h=>by simp at h⟩
theorem f9.cons {I:Nat->Nat->Prop} {w:World} {g:Nat->Value} {u:Value} {d:V} {us:List Value} {ds:List V} (h:AtV I w g u d) (hs:f9 I w g us ds):f9 I w g (u::us) (d::ds) :=
 ⟨by simp[hs.1],λi x y hx hy=>by
  cases i with
  | zero=>simp at hx hy;subst hx;subst hy;exact h
  | succ i=>exact hs.2 i x y (by simpa using hx) (by simpa using hy)⟩
theorem f9.uncons {I:Nat->Nat->Prop} {w:World} {g:Nat->Value} {us:List Value} {d:V} {ds:List V} (h:f9 I w g us (d::ds)):∃u us',us=u::us'/\AtV I w g u d/\f9 I w g us' ds:=by
 cases us with
 | nil=>have:=h.1;simp at this
 | cons u us=>exact⟨u,us,rfl,h.2 0 u d rfl rfl,by have:=h.1;simpa using this,λi x y hx hy=>h.2 (i+1) x y (by simpa using hx) (by simpa using hy)⟩
theorem f9.unnil {I:Nat->Nat->Prop} {w:World} {g:Nat->Value} {us:List Value} (h:f9 I w g us []):us=[]:=c2M h.1
theorem f9.drop {I:Nat->Nat->Prop} {w:World} {g:Nat->Value} {us:List Value} {ds:List V} (h:f9 I w g us ds) (n:Nat):f9 I w g (us.drop n) (ds.drop n) :=
 ⟨by simp[h.1],λi u d hu hd=>h.2 (n+i) u d (by rw[<-c3e];exact hu) (by rw[<-c3e];exact hd)⟩
theorem f9.take {I:Nat->Nat->Prop} {w:World} {g:Nat->Value} {us:List Value} {ds:List V} (h:f9 I w g us ds) (n:Nat):f9 I w g (us.take n) (ds.take n) :=
 ⟨by simp[h.1],λi u d hu hd=>by
  rw[c3g] at hu hd
  split at hu
  ·rw[c2E (by assumption)] at hd;exact h.2 i u d hu hd
  ·cases hu⟩
theorem f9.append {I:Nat->Nat->Prop} {w:World} {g:Nat->Value} {us us':List Value} {ds ds':List V} (h:f9 I w g us ds) (h':f9 I w g us' ds'):f9 I w g (us++us') (ds++ds') :=
 ⟨by simp[h.1,h'.1],λi u d hu hd=>by
  by_cases hi:i<us.length
  ·rw[c2R hi] at hu;rw[c2R (by rw[<-h.1];exact hi)] at hd;exact h.2 i u d hu hd
  ·rw[c2P (by omega)] at hu;rw[c2P (by rw[<-h.1];omega),<-h.1] at hd
   exact h'.2 _ u d hu hd⟩
theorem f9.set {I:Nat->Nat->Prop} {w:World} {g:Nat->Value} {us:List Value} {ds:List V} (h:f9 I w g us ds) {u:Value} {d:V} (hd:AtV I w g u d) (n:Nat):f9 I w g (us.set n u) (ds.set n d) :=
 ⟨by simp[h.1],λi x y hx hy=>by
  by_cases hi:n=i
  ·subst hi
   have hlt:n<us.length:=by
    have:=(c25.1 hx).1
    simpa using this
   rw[c2S hlt] at hx;rw[c2S (by rw[<-h.1];exact hlt)] at hy;injection hx with hx;injection hy with hy;subst hx;subst hy;exact hd
  ·rw[c2L hi] at hx hy
   exact h.2 i x y hx hy⟩
theorem a00 {I:Nat->Nat->Prop} {w:World} {g:Nat->Value} {us:List Value} {cs:List V} (h:f9 I w g us cs):AtV I w g (.agg us.toArray) (.ag cs):=.ag us cs h.1 h.2
theorem a0S {I:Nat->Nat->Prop} {w:World} {g:Nat->Value} {us:List Value} {cs:List V} (h:f9 I w g us cs):AtV I w g (.tuple us.toArray) (.tu cs):=.tu us cs h.1 h.2
theorem AtV.unag {I:Nat->Nat->Prop} {w:World} {g:Nat->Value} {v:Value} {cs:List V} (h:AtV I w g v (.ag cs)):∃us,v=.agg us.toArray/\f9 I w g us cs:=by
 cases h with
 | ag us cs hl h=>exact⟨us,rfl,hl,h⟩
theorem AtV.untu {I:Nat->Nat->Prop} {w:World} {g:Nat->Value} {v:Value} {cs:List V} (h:AtV I w g v (.tu cs)):∃us,v=.tuple us.toArray/\f9 I w g us cs:=by
 cases h with
 | tu us cs hl h=>exact⟨us,rfl,hl,h⟩
theorem AtV.unem {I:Nat->Nat->Prop} {w:World} {g:Nat->Value} {v:Value} (h:AtV I w g v .em):v=.slice none 0 0:=by cases h;rfl
theorem AtV.unown {I:Nat->Nat->Prop} {w:World} {g:Nat->Value} {v:Value} {k:Nat} (h:AtV I w g v (.own k)):v=gv (g k)/\∃A n cap,gv (g k)=.slice A n cap:=by
 cases h with
 | own k A n cap h=>exact⟨h.symm,A,n,cap,h⟩
theorem AtV.unbs {I:Nat->Nat->Prop} {w:World} {g:Nat->Value} {v:Value} {k n:Nat} (h:AtV I w g v (.bs k n)):∃b cap,g k=.pointer (some ⟨b,0,none⟩)/\v=.slice (some ⟨b,0,none⟩) n cap/\n<=cap:=by
 cases h with
 | bs k n b cap h hn=>exact⟨b,cap,h,rfl,hn⟩
theorem AtV.unmp {I:Nat->Nat->Prop} {w:World} {g:Nat->Value} {v:Value} {k:Nat} (h:AtV I w g v (.mp k)):∃b,g k=.map (some b)/\v=.map (some b):=by
 cases h with
 | mp k b h=>exact⟨b,h,rfl⟩
theorem AtV.unptr {I:Nat->Nat->Prop} {w:World} {g:Nat->Value} {v:Value} {k off:Nat} (h:AtV I w g v (.ptr k off)):∃b,g k=.pointer (some ⟨b,0,none⟩)/\v=.pointer (some ⟨b,off,none⟩):=by
 cases h with
 | ptr k off b h=>exact⟨b,h,rfl⟩
theorem s8.toV {I:Nat->Nat->Prop} {w:World} (g:Nat->Value):∀ {ds:List D} {us:List Value},s8 I w us ds->f9 I w g us (ofD ds)
 | [],us,h=>by
  rw[c2M h.1];exact .nil I w g
 | d::ds,us,h=>by
  obtain⟨u,us',rfl,h1,h2⟩:=h.uncons;exact .cons (.d h1) (s8.toV g h2)
section
structure Fr (X:Nat->Prop) (w w':World):Prop where
 os:w'.os=w.os
 tape:w'.tape=w.tape
 output:w'.output=w.output
 size:w.heap.size<=w'.heap.size
 block:∀b,b<w.heap.size->¬X b->w'.heap[b]?=w.heap[b]?
theorem Fr.refl (X:Nat->Prop) (w:World):Fr X w w:=⟨rfl,rfl,rfl,c2A _,λ_ _ _=>rfl⟩
def Tabs (X:Nat->Prop) (w:World):Prop:=∀t∈tabsOf,w.var? Tryd.prog t.1=some (t.2.2.map λz=>Value.int t.2.1 z).toArray/\∀g,Tryd.prog.globalNamed t.1=some g->¬X g
theorem b6f {w:World} {name:String} {a:Array Value} (h:w.var? Tryd.prog name=some a):∃g t c,Tryd.prog.globalNamed name=some g/\w.heap[g]?=some (.cells a t c)/\g<w.heap.size:=by
 unfold World.var? at h;cases hg:Tryd.prog.globalNamed name with
 | none=>rw[hg] at h;cases h
 | some g =>
  rw[hg] at h;simp only[c3A] at h;cases ho:w.heap[g]? with
  | none=>rw[ho] at h;cases h
  | some o =>
   rw[ho] at h;cases o with
   | cells a' t c=>injection h with h;subst h;exact⟨g,t,c,rfl,ho,(c2I.1 ho).1⟩
   | _=>cases h
theorem b6g {w:World} {name:String} {a:Array Value} {g:Nat} {t:TypeId} {c:Nat×Nat} (hg:Tryd.prog.globalNamed name=some g) (h:w.heap[g]?=some (.cells a t c)):w.var? Tryd.prog name=some a:=by
 unfold World.var?;rw[hg];simp only[c3A,h]
theorem Tabs.fr {X X':Nat->Prop} {w w':World} (h:Tabs X w) (hf:Fr X w w') (hX:∀b,b<w.heap.size->¬X b->¬X' b):Tabs X' w':=λt ht=>by
 obtain⟨h1,h2⟩:=h t ht;obtain⟨g,ty,c,e1,e2,e3⟩:=b6f h1;exact⟨b6g e1 ((hf.block g e3 (h2 g e1)).trans e2),λg' hg'=>by rw[e1] at hg';injection hg' with hg';subst hg';exact hX _ e3 (h2 _ e1)⟩
def Wld (I:Nat->Nat->Prop) (w:World):Prop:=(∀b h,I b h->b<w.heap.size)/\Tabs (λ_=>False) w
structure W0 where
 w:World
 g:Nat->Value
 n:Nat
 d:List Deferred
def M9:Value->Nat->Prop
 | .pointer (some a),b=>a.block=b
 | .slice (some a) _ _,b=>a.block=b
 | .map (some c),b=>c=b
 | .tuple us,b=>.pointer (some ⟨b,0,none⟩)∈us.toList
 | _,_=>False
theorem z8 {A:Option Addr} {n cap:Nat} {F:List Nat} {b:Nat}:M9 (W6 (.slice A n cap) F) b↔b∈F:=by
 show Value.pointer (some ⟨b,0,none⟩)∈Value.slice A n cap::F.map (λb=>.pointer (some ⟨b,0,none⟩))↔_
 simp
def H6:Value->Bool
 | .pointer _=>true
 | .map _=>true
 | .agg _=>true
 | _=>false
def a12 (X:Nat->Prop) (w0:W0) (b:Nat):Prop:=w0.w.heap.size<=b\/X b
def AtR (I:Nat->Nat->Prop) (w:World) (v:Value):R->Prop
 | .one x=>AtD I w v x
 | .ag xs=>∃us,v=.agg us.toArray/\s8 I w us xs
theorem AtR.mono {I I':Nat->Nat->Prop} {w w':World} (hI:∀b h,I b h->I' b h) (hk:n7 I w w') {v:Value} {r:R} (h:AtR I w v r):AtR I' w' v r:=by
 cases r with
 | one x=>exact AtD.mono hI hk h
 | ag xs=>obtain⟨us,h1,h2⟩:=h;exact⟨us,h1,h2.mono hI hk⟩
def a9v (I:Nat->Nat->Prop) (w:World) (kt:Nat) (l:List MapEntry) (es:List (R×R)):Prop:=l.length=es.length/\∀(i:Nat) (e:MapEntry) (p:R×R),l[i]?=some e->es[i]?=some p->AtR I w e.key p.1/\AtR I w e.val p.2/\a2o kt p.1=true
theorem a9v.mono {I I':Nat->Nat->Prop} {w w':World} (hI:∀b h,I b h->I' b h) (hk:n7 I w w') {kt:Nat} {l:List MapEntry} {es:List (R×R)} (h:a9v I w kt l es):a9v I' w' kt l es :=
 ⟨h.1,λi e p he hp=>by obtain⟨h1,h2,h3⟩:=h.2 i e p he hp;exact⟨h1.mono hI hk,h2.mono hI hk,h3⟩⟩
def W7 (X:Nat->Prop) (w0:W0) (I:Nat->Nat->Prop) (w:World) (g:Nat->Value) (k:Nat):O->Prop
 | .dead=>True
 | .box cs=>∃(b:Nat) (us:List Value) (t:TypeId×List Value),g k=.pointer (some ⟨b,0,none⟩)/\w.heap[b]?=some (.cells (us++t.2).toArray t.1 (0,0))/\f9 I w g us cs/\(∀u∈us,u.oneCell'=true)/\(∀h,¬I b h)/\a12 X w0 b
 | .mp kt es=>∃b l c,g k=.map (some b)/\w.heap[b]?=some (.map l c)/\a9v I w kt l.toList es/\(∀h,¬I b h)/\a12 X w0 b
 | .kl ks=>∃us,g k=.agg us/\us.size<=k/\∀(j:Nat) (u:Value),us[j]?=some u->u=.nilFunc\/g j=u\/j∈ks
 | .ob T vs=>∃b:Nat,g k=.pointer (some ⟨b,0,none⟩)/\w.heap[b]?=some (.cells vs.toArray T (0,0))/\(∀h,¬I b h)/\a12 X w0 b
 | .it P=>∃A n cap F,g k=W6 (.slice A n cap) F/\P w (.slice A n cap) F/\(∀w':World,(∀b∈F,w'.heap[b]?=w.heap[b]?)->P w' (.slice A n cap) F)/\∀b∈F,(∃(c:Array Value) (t:TypeId),w.heap[b]?=some (.cells c t (0,0)))/\(∀h,¬I b h)/\a12 X w0 b
 | .row z e rows=>∃us,w.ownsRow 0 e (ty e).sz (g k) rows.length us/\(∀r∈rows,r.length=(ty e).sz)/\s8 I w us rows.flatten /\
   ∀b,(g k).ownBlock=some b->(z=true->I b (rows.length * (ty e).sz))/\(∀h,I b h->z=true/\h<=rows.length * (ty e).sz)/\a12 X w0 b
def A1 (s:S) (k:Nat):Prop:=∃o,s.o[k]?=some o/\o≠.dead
structure RelI (I0:Nat->Nat->Prop) (X:Nat->Prop) (w0:W0) (I:Nat->Nat->Prop) (g:Nat->Value) (s:S) (a:Act) (w:World):Prop where
 im:∀b h,I0 b h->I b h
 lt:∀b h,I b h->b<w.heap.size/\(b<w0.w.heap.size->I0 b h\/X b)
 fr:Fr X w0.w w
 kp:n7 I0 w0.w w
 lo:w0.n<=s.o.length
 st:∀k,k<w0.n->H6 (w0.g k)=true->g k=w0.g k
 obj:∀k o,s.o[k]?=some o->W7 X w0 I w g k o
 dis:∀j k b,A1 s j->A1 s k->M9 (g j) b->M9 (g k) b->j=k
 out:∀k,s.o.length<=k->g k=.nilFunc
 tmp:f9 I w g a.tmps.toList s.t
 dfr:a.defers=w0.d/\Tabs X w0.w
def U8 (I0:Nat->Nat->Prop) (X:Nat->Prop) (w0:W0) (s:S) (a:Act) (w:World):Prop:=∃I g,RelI I0 X w0 I g s a w
theorem m7:∀l:List O,j2 l=l.length
 | []=>rfl
 | _::l=>by rw[j2,m7 l];rfl
theorem x7 {α:Type}:∀l:List α,m9 l=l.length
 | []=>rfl
 | _::l=>by rw[m9,x7 l];rfl
theorem a0m (o:O):∀l:List O,o6 l o=l++[o]
 | []=>rfl
 | x::l=>by rw[o6,a0m o l];rfl
theorem x5 (o:O):∀(l:List O) (k:Nat),A2 l k o=l.set k o
 | [],_=>rfl
 | _::_,0=>rfl
 | x::l,k+1=>by rw[A2,x5 o l k];rfl
theorem N7 (v:V):∀(l:List V) (k:Nat),G7 l k v=l.set k v
 | [],_=>rfl
 | _::_,0=>rfl
 | x::l,k+1=>by rw[G7,N7 v l k];rfl
theorem j1:∀ {l:List O} {k:Nat} {o:O},m5 l k=o->o≠.dead->l[k]?=some o
 | [],_,_,h,hd=>absurd h.symm hd
 | x::_,0,_,h,_=>by rw[m5] at h;rw[h];rfl
 | x::l,k+1,_,h,hd=>by rw[m5] at h;simpa using j1 h hd
theorem Q0:∀ {l:List V} {k:Nat} {v:V},m8 l k=v->v≠.jk->l[k]?=some v
 | [],_,_,h,hd=>absurd h.symm hd
 | x::_,0,_,h,_=>by rw[m8] at h;rw[h];rfl
 | x::l,k+1,_,h,hd=>by rw[m8] at h;simpa using Q0 h hd
theorem a24:∀(l:List V) (k:Nat),l[k]?=some (m8 l k)\/(l.length<=k/\m8 l k=.jk)
 | [],_=>.inr ⟨by simp,rfl⟩
 | x::_,0=>.inl rfl
 | x::l,k+1=>by
  rcases a24 l k with h|⟨h1,h2⟩
  ·exact .inl (by simpa [m8] using h)
  ·exact .inr ⟨by simp;exact h1,by rw[m8];exact h2⟩
theorem a0n {α:Type}:∀(n:Nat) (l:List α),K3 n l=l.drop n
 | 0,_=>rfl
 | _+1,[]=>rfl
 | n+1,_::l=>by rw[K3,a0n n l];rfl
theorem a0o {α:Type}:∀ {n:Nat} {l m:List α},G8 n l=some m->m=l.take n/\m.length=n
 | 0,_,_,h=>by injection h with h;subst h;simp
 | _+1,[],_,h=>by cases h
 | n+1,x::l,m,h=>by
  rw[G8] at h
  split at h
  ·rename_i t ht;injection h with h;subst h;have:=a0o ht;exact⟨by simp[this.1],by simp[this.2]⟩
  ·cases h
theorem w8:∀ {n m:Nat},B8 n m=true↔n=m
 | 0,0=>by simp[B8]
 | 0,m+1=>by simp[B8]
 | n+1,0=>by simp[B8]
 | n+1,m+1=>by rw[B8,w8];omega
theorem Y0 {n m:Nat}:B8 n m=false↔n≠m:=by
 rw[<-c4G,w8]
theorem Y3 {α:Type}:∀ {l:List α} {n:Nat} {m r:List α},splice l n m=some r->r=l.take n++m++l.drop (n+m.length)/\n+m.length<=l.length
 | l,0,[],r,h=>by
  rw[splice] at h;injection h with h;subst h
  simp
 | x::l,0,y::ys,r,h=>by
  rw[splice] at h
  split at h
  ·rename_i t ht;injection h with h;subst h;obtain⟨e,hl⟩:=Y3 ht;refine⟨?_,by simp at hl ⊢;omega⟩;rw[e]
   simp
  ·cases h
 | x::l,n+1,ys,r,h=>by
  rw[splice] at h
  split at h
  ·rename_i t ht;injection h with h;subst h;obtain⟨e,hl⟩:=Y3 ht;refine⟨?_,by simp at hl ⊢;omega⟩;rw[e]
   simp[c4o]
  ·cases h
 | [],n+1,ys,r,h=>by rw[splice] at h;cases h
 | [],0,y::ys,r,h=>by rw[splice] at h;cases h
theorem f9.splice {I:Nat->Nat->Prop} {w:World} {g:Nat->Value} {us vs:List Value} {cs ds r:List V} {n:Nat} (h:f9 I w g us cs) (h':f9 I w g vs ds) (hr:splice cs n ds=some r):f9 I w g (us.take n++vs++us.drop (n+vs.length)) r:=by
 obtain⟨e,_⟩:=Y3 hr;subst e;rw[h'.1];exact((h.take n).append h').append (h.drop _)
section
variable {I0:Nat->Nat->Prop} {X:Nat->Prop} {w0:W0} {I:Nat->Nat->Prop} {g:Nat->Value} {s:S} {a:Act} {w:World}
theorem a8r (v:Value):AtV I w g v (a5f v):=by
 unfold a5f
 split
 ·exact .em
 ·exact .jk _
 ·exact .jk _
 ·rename_i h1 h2 h3;refine .d (.sc _ ?_);cases v <;> first|rfl|(exfalso;exact h2 _ rfl)|(exfalso;exact h3 _ rfl)
theorem H0:∀l:List Value,f9 I w g l (A6 l)
 | []=>.nil I w g
 | x::l=>.cons (a8r x) (H0 l)
theorem RelI.get (h:RelI I0 X w0 I g s a w) (x:Operand):AtV I w g (a.eval x) (s.get x):=by
 cases x with
 | tmp i =>
  show AtV I w g (a.tmps.getD i undef) (m8 s.t i)
  rcases a24 s.t i with h1|⟨_,h2⟩
  ·have hi:i<s.t.length:=(c25.1 h1).1;have hi':i<a.tmps.size:=by have h2:=h.tmp.1;rw[c4z] at h2;rw[h2];exact hi
   have h3:=h.tmp.2 i a.tmps[i] _ (by simp[hi']) h1;rw[Array.getD_eq_getD_getElem?,c3O hi'];exact h3
  ·rw[h2];exact .jk _
 | const v=>exact a8r v
 | global k=>exact .jk _
 | func f=>exact .cl f [] [] rfl λi u k hu _=>by simp at hu
theorem RelI.gets (h:RelI I0 X w0 I g s a w):∀l:List Operand,f9 I w g (l.map a.eval) (I6 s.get l)
 | []=>.nil I w g
 | x::l=>.cons (h.get x) (h.gets l)
theorem RelI.put (h:RelI I0 X w0 I g s a w) {v:Value} {x:V} (hv:AtV I w g v x) (dst:Option Nat):RelI I0 X w0 I g (s.put dst x) (a.put dst v) w:=by
 cases dst with
 | none=>exact h
 | some d =>
  refine⟨h.im,h.lt,h.fr,h.kp,h.lo,h.st,h.obj,h.dis,h.out,?_,h.dfr⟩;show f9 I w g (a.tmps.setIfInBounds d v).toList (G7 s.t d x);rw[N7,Array.toList_setIfInBounds];exact h.tmp.set hv d
theorem Fr.drew {wz:World} (h:Fr X wz w):Fr X wz w.drew:=⟨h.os,h.tape,h.output,h.size,h.block⟩
theorem Fr.drewN {wz:World} (h:Fr X wz w) (n:Nat):Fr X wz (w.drewN n):=⟨h.os,h.tape,h.output,h.size,h.block⟩
theorem RelI.drew (h:RelI I0 X w0 I g s a w):RelI I0 X w0 I g s a w.drew:=by
 have hk:n7 I w w.drew:=λ_ _ _ _ _=>rfl
 refine⟨h.im,h.lt,h.fr.drew,h.kp,h.lo,h.st,λk o ho=>?_,h.dis,h.out,h.tmp.mono (λ_ _ h=>h) hk,h.dfr⟩;have:=h.obj k o ho;cases o with
 | dead=>exact True.intro
 | box cs=>obtain⟨b,us,t,h1,h2,h3,h4,h5,h6⟩:=this;exact⟨b,us,t,h1,h2,h3.mono (λ_ _ h=>h) hk,h4,h5,h6⟩
 | row z e rows=>obtain⟨us,h1,h2,h3,h4⟩:=this;exact⟨us,h1,h2,h3.mono (λ_ _ h=>h) hk,h4⟩
 | mp kt es=>obtain⟨b,l,c,h1,h2,h3,h4⟩:=this;exact⟨b,l,c,h1,h2,h3.mono (λ_ _ h=>h) hk,h4⟩
 | it P=>obtain⟨A,n,cap,F,h1,h2,h3,h4⟩:=this;exact⟨A,n,cap,F,h1,h3 _ λ_ _=>rfl,h3,h4⟩
 | ob T vs=>obtain⟨b,h1,h2,h3⟩:=this;exact⟨b,h1,h2,h3⟩
 | kl ks=>exact this
theorem W7.blk {k:Nat} {o:O} (h:W7 X w0 I w g k o) (hd:o≠.dead):∀b,M9 (g k) b->b<w.heap.size/\a12 X w0 b:=by
 intro b hb;cases o with
 | dead=>exact absurd rfl hd
 | box cs =>
  obtain⟨b',us,t,h1,h2,h3,h4,h5,h6⟩:=h;rw[h1] at hb;obtain rfl:b'=b:=hb;exact⟨(c2I.1 h2).1,h6⟩
 | row z e rows =>
  obtain⟨us,h1,h2,h3,h4⟩:=h
  rcases h1.2 with⟨e0,_⟩|⟨g',cap,cur,e0,_,hh,_⟩
  ·rw[e0] at hb;exact hb.elim
  ·rw[e0] at hb;obtain rfl:g'=b:=hb;exact⟨(c2I.1 hh).1,(h4 _ (by rw[e0];rfl)).2.2⟩
 | mp kt es =>
  obtain⟨b',l,c,h1,h2,h3,h4,h5⟩:=h;rw[h1] at hb;obtain rfl:b'=b:=hb;exact⟨(c2I.1 h2).1,h5⟩
 | ob T vs =>
  obtain⟨b',h1,h2,h4,h5⟩:=h;rw[h1] at hb;obtain rfl:b'=b:=hb;exact⟨(c2I.1 h2).1,h5⟩
 | it P =>
  obtain⟨A,n,cap,F,h1,h2,h3,h4⟩:=h;rw[h1,z8] at hb;obtain⟨⟨c,t,h5⟩,h6⟩:=h4 b hb;exact⟨(c2I.1 h5).1,h6.2⟩
 | kl ks =>
  obtain⟨us,h1,_⟩:=h;rw[h1] at hb;exact hb.elim
theorem RelI.tabs (h:RelI I0 X w0 I g s a w) {X':Nat->Prop} (hX:∀b,X' b->a12 X w0 b):Tabs X' w:=h.dfr.2.fr h.fr λb hb hn hx=>(hX b hx).elim (λh3=>absurd hb (Nat.not_lt.2 h3)) hn
theorem RelI.wld (h:RelI I0 X w0 I g s a w):Wld I w:=⟨λb k hb=>(h.lt b k hb).1,h.tabs λ_ h=>h.elim⟩
theorem W7.keep {k:Nat} {o:O} {w':World} {I':Nat->Nat->Prop} (h:W7 X w0 I w g k o) (hI:∀b h,I b h->I' b h) (hk:n7 I w w') (hb:∀b,M9 (g k) b->w'.heap[b]?=w.heap[b]?) (hI':∀b,M9 (g k) b->∀h,I' b h->I b h):W7 X w0 I' w' g k o:=by
 cases o with
 | dead=>exact True.intro
 | box cs =>
  obtain⟨b,us,t,h1,h2,h3,h4,h5,h6⟩:=h;have hg:M9 (g k) b:=by rw[h1];rfl
  exact⟨b,us,t,h1,(hb b hg).trans h2,h3.mono hI hk,h4,λh h'=>h5 h (hI' b hg h h'),h6⟩
 | row z e rows =>
  obtain⟨us,h1,h2,h3,h4⟩:=h
  have hblk:∀b,(g k).ownBlock=some b->M9 (g k) b:=λb hb'=>by
   rcases h1.2 with⟨e0,_⟩|⟨g',cap,cur,e0,_⟩ <;> rw[e0] at hb' ⊢
   ·cases hb'
   ·exact Option.some.inj hb'
  refine⟨us,⟨h1.1,?_⟩,h2,h3.mono hI hk,λb hb'=>⟨λhz=>hI _ _ ((h4 b hb').1 hz),λh h'=>(h4 b hb').2.1 h (hI' b (hblk b hb') h h'),(h4 b hb').2.2⟩⟩
  rcases h1.2 with h0|⟨g',cap,cur,e0,hb',hh,r⟩
  ·exact .inl h0
  ·exact .inr ⟨g',cap,cur,e0,hb',(hb g' (by rw[e0];rfl)).trans hh,r⟩
 | mp kt es =>
  obtain⟨b,l,c,h1,h2,h3,h4,h5⟩:=h;have hg:M9 (g k) b:=by rw[h1];rfl
  exact⟨b,l,c,h1,(hb b hg).trans h2,h3.mono hI hk,λh h'=>h4 h (hI' b hg h h'),h5⟩
 | ob T vs =>
  obtain⟨b,h1,h2,h4,h5⟩:=h;have hg:M9 (g k) b:=by rw[h1];rfl
  exact⟨b,h1,(hb b hg).trans h2,λh h'=>h4 h (hI' b hg h h'),h5⟩
 | it P =>
  obtain⟨A,n,cap,F,h1,h2,h3,h4⟩:=h;have hg:∀b∈F,M9 (g k) b:=λb hb=>by rw[h1,z8];exact hb
  have hF:∀b∈F,w'.heap[b]?=w.heap[b]?:=λb hm=>hb b (hg b hm)
  refine⟨A,n,cap,F,h1,h3 w' hF,λw2 h2=>h3 w2 λb hb=>(h2 b hb).trans (hF b hb),λb hm=>⟨?_,λh h'=>(h4 b hm).2.1 h (hI' b (hg b hm) h h'),(h4 b hm).2.2⟩⟩;obtain⟨c,t,h5⟩:=(h4 b hm).1;exact⟨c,t,(hF b hm).trans h5⟩
 | kl ks=>exact h
theorem RelI.grow (h:RelI I0 X w0 I g s a w) {w':World} (hb:Below w.heap.size w w') {I':Nat->Nat->Prop} (hI:∀b k,I b k->I' b k) (hI':∀b k,I' b k->I b k\/(w.heap.size<=b/\b<w'.heap.size)):RelI I0 X w0 I' g s a w':=by
 have hk:n7 I w w':=λb k hbk i _=>hb.cell (p:=⟨b,i,none⟩) (h.lt b k hbk).1
 refine⟨λb k hb=>hI _ _ (h.im b k hb),λb k hbk=>?_,?_,h.kp.trans λb k hbk i hi=>hk b k (h.im b k hbk) i hi,h.lo,h.st,λk o ho=>?_,h.dis,h.out,h.tmp.mono hI hk,h.dfr⟩
 ·rcases hI' b k hbk with h1|⟨h1,h2⟩
  ·exact⟨c3y (h.lt b k h1).1 hb.size,(h.lt b k h1).2⟩
  ·exact⟨h2,λh3=>absurd (c3y h3 h.fr.size) (by omega)⟩
 ·exact⟨hb.os.trans h.fr.os,hb.tape.trans h.fr.tape,hb.output.trans h.fr.output,c3E h.fr.size hb.size,λb hb1 hX=>(hb.block b (c3y hb1 h.fr.size)).trans (h.fr.block b hb1 hX)⟩
 ·cases hd:o with
  | dead=>exact True.intro
  | box cs =>
   have ho':=h.obj k o ho;rw[hd] at ho';refine ho'.keep hI hk (λb hb'=>hb.block b (ho'.blk (by simp) b hb').1) λb hb' k' hk'=>?_
   rcases hI' b k' hk' with h1|⟨h1,_⟩
   ·exact h1
   ·have:=(ho'.blk (by simp) b hb').1;omega
  | row z e rows =>
   have ho':=h.obj k o ho;rw[hd] at ho';refine ho'.keep hI hk (λb hb'=>hb.block b (ho'.blk (by simp) b hb').1) λb hb' k' hk'=>?_
   rcases hI' b k' hk' with h1|⟨h1,_⟩
   ·exact h1
   ·have:=(ho'.blk (by simp) b hb').1;omega
  | mp kt es =>
   have ho':=h.obj k o ho;rw[hd] at ho';refine ho'.keep hI hk (λb hb'=>hb.block b (ho'.blk (by simp) b hb').1) λb hb' k' hk'=>?_
   rcases hI' b k' hk' with h1|⟨h1,_⟩
   ·exact h1
   ·have:=(ho'.blk (by simp) b hb').1;omega
  | ob T vs =>
   have ho':=h.obj k o ho;rw[hd] at ho';refine ho'.keep hI hk (λb hb'=>hb.block b (ho'.blk (by simp) b hb').1) λb hb' k' hk'=>?_
   rcases hI' b k' hk' with h1|⟨h1,_⟩
   ·exact h1
   ·have:=(ho'.blk (by simp) b hb').1;omega
  | it P =>
   have ho':=h.obj k o ho;rw[hd] at ho';refine ho'.keep hI hk (λb hb'=>hb.block b (ho'.blk (by simp) b hb').1) λb hb' k' hk'=>?_
   rcases hI' b k' hk' with h1|⟨h1,_⟩
   ·exact h1
   ·have:=(ho'.blk (by simp) b hb').1;omega
  | kl ks =>
   have ho':=h.obj k o ho;rw[hd] at ho';refine ho'.keep hI hk (λb hb'=>hb.block b (ho'.blk (by simp) b hb').1) λb hb' k' hk'=>?_
   rcases hI' b k' hk' with h1|⟨h1,_⟩
   ·exact h1
   ·have:=(ho'.blk (by simp) b hb').1;omega
end
end
section
theorem AtV.more {I:Nat->Nat->Prop} {w:World} {g g':Nat->Value} (hg:∀k,g k≠.nilFunc->g' k=g k) {v:Value} {x:V} (h:AtV I w g v x):AtV I w g' v x:=by
 induction h with
 | d h=>exact .d h
 | ag us cs hl _ ih=>exact .ag us cs hl ih
 | tu us cs hl _ ih=>exact .tu us cs hl ih
 | em=>exact .em
 | own k A n cap h=>exact .own k A n cap ((congrArg gv (hg k (by intro e;rw[e] at h;cases h))).trans h)
 | ptr k off b h=>exact .ptr k off b ((hg k (by rw[h];simp)).trans h)
 | cl f us ks hl h =>
  exact .cl f us ks hl λi u k hu hk=>by
   obtain⟨h1,b,h2⟩:=h i u k hu hk;have h3:=hg k (by rw[h2];simp);exact⟨h1.trans h3.symm,b,h3.trans h2⟩
 | el k i sz off b n cap h=>exact .el k i sz off b n cap ((hg k (by rw[h];simp)).trans h)
 | ro b o off us cs hi hc hd=>exact .ro b o off us cs hi hc hd
 | mp k b h=>exact .mp k b ((hg k (by rw[h];simp)).trans h)
 | bs k n b cap h hn=>exact .bs k n b cap ((hg k (by rw[h];simp)).trans h) hn
 | jk v=>exact .jk v
theorem f9.more {I:Nat->Nat->Prop} {w:World} {g g':Nat->Value} (hg:∀k,g k≠.nilFunc->g' k=g k) {us:List Value} {cs:List V} (h:f9 I w g us cs):f9 I w g' us cs :=
 ⟨h.1,λi u d hu hd=>(h.2 i u d hu hd).more hg⟩
theorem W7.more {X:Nat->Prop} {w0:W0} {I:Nat->Nat->Prop} {w:World} {g g':Nat->Value} (hg:∀k,g k≠.nilFunc->g' k=g k) {k:Nat} {o:O} (h:W7 X w0 I w g k o):W7 X w0 I w g' k o:=by
 cases o with
 | dead=>exact True.intro
 | box cs =>
  obtain⟨b,us,t,h1,h2,h3,h4⟩:=h;exact⟨b,us,t,(hg k (by rw[h1];simp)).trans h1,h2,h3.more hg,h4⟩
 | row z e rows =>
  obtain⟨us,h1,h2,h3,h4⟩:=h;have:g' k=g k:=hg k (by rcases h1.2 with⟨e0,_⟩|⟨g',cap,cur,e0,_⟩ <;> rw[e0] <;> simp);exact⟨us,by rw[this];exact h1,h2,h3,by rw[this];exact h4⟩
 | mp kt es =>
  obtain⟨b,l,c,h1,h2⟩:=h;exact⟨b,l,c,(hg k (by rw[h1];simp)).trans h1,h2⟩
 | ob T vs =>
  obtain⟨b,h1,h2⟩:=h;exact⟨b,(hg k (by rw[h1];simp)).trans h1,h2⟩
 | it P =>
  obtain⟨A,n,cap,F,h1,h2⟩:=h;exact⟨A,n,cap,F,(hg k (by rw[h1];simp[W6])).trans h1,h2⟩
 | kl ks =>
  obtain⟨us,h1,h2,h3⟩:=h;refine⟨us,(hg k (by rw[h1];simp)).trans h1,h2,λj u hu=>?_⟩
  rcases h3 j u hu with h4|h4|h4
  ·exact .inl h4
  ·by_cases e:u=.nilFunc
   ·exact .inl e
   ·exact .inr (.inl ((hg j (by rw[h4];exact e)).trans h4))
  ·exact .inr (.inr h4)
section
variable {I0:Nat->Nat->Prop} {X:Nat->Prop} {w0:W0} {I:Nat->Nat->Prop} {g:Nat->Value} {s:S} {a:Act} {w:World}
def upd (g:Nat->Value) (k:Nat) (v:Value):Nat->Value:=λj=>if j=k then v else g j
theorem d9 (g:Nat->Value) (k:Nat) (v:Value):upd g k v k=v:=c2E rfl
theorem r8 {g:Nat->Value} {k:Nat} {v:Value} {j:Nat} (h:j≠k):upd g k v j=g j:=c2H h
theorem RelI.fresh (h:RelI I0 X w0 I g s a w) (v:Value):∀k,g k≠.nilFunc->upd g s.o.length v k=g k:=λk hk=>r8 λe=>hk (h.out k (by omega))
theorem RelI.newObj (h:RelI I0 X w0 I g s a w) (o:O) (v:Value) (ho:W7 X w0 I w (upd g s.o.length v) s.o.length o) (hdis:∀j b,A1 s j->M9 (g j) b->¬M9 v b):RelI I0 X w0 I (upd g s.o.length v) (s.obj o) a w:=by
 have hg:=h.fresh v
 have hget:∀k o',(s.o++[o])[k]?=some o'->(k<s.o.length/\s.o[k]?=some o')\/(k=s.o.length/\o'=o):=λk o' hk=>by
  rcases c3o k s.o.length with hlt|hge
  ·rw[c2R hlt] at hk;exact .inl ⟨hlt,hk⟩
  ·rw[c2P hge] at hk
   have h0:k - s.o.length=0:=by
    have:=(c25.1 hk).1;simp at this;omega
   rw[h0] at hk
   simp at hk
   exact .inr ⟨by omega,hk.symm⟩
 have ho2:(s.obj o).o=s.o++[o]:=a0m o s.o;refine⟨h.im,h.lt,h.fr,h.kp,by rw[ho2,c29];exact c3E h.lo (Nat.le_add_right _ _),λk hk hr=>by rw[r8 (by have:=h.lo;omega)];exact h.st k hk hr,λk o' hk=>?_,λj k b hj hk hbj hbk=>?_,λk hk=>?_,h.tmp.more hg,h.dfr⟩
 ·rw[ho2] at hk
  rcases hget k o' hk with⟨hlt,hk'⟩|⟨rfl,rfl⟩
  ·exact(h.obj k o' hk').more hg
  ·exact ho
 ·obtain⟨oj,hoj,hdj⟩:=hj;obtain⟨ok,hok,hdk⟩:=hk;rw[ho2] at hoj hok
  rcases hget j oj hoj with⟨hlj,hj'⟩|⟨rfl,rfl⟩ <;> rcases hget k ok hok with⟨hlk,hk'⟩|⟨rfl,rfl⟩
  ·rw[r8 (by omega)] at hbj hbk;exact h.dis j k b ⟨_,hj',hdj⟩ ⟨_,hk',hdk⟩ hbj hbk
  ·rw[r8 (by omega)] at hbj;rw[d9] at hbk;exact absurd hbk (hdis j b ⟨_,hj',hdj⟩ hbj)
  ·rw[r8 (by omega)] at hbk;rw[d9] at hbj;exact absurd hbj (hdis k b ⟨_,hk',hdk⟩ hbk)
  ·rfl
 ·rw[ho2,c29,c4r] at hk;rw[r8 (by omega)];exact h.out k (by omega)
theorem RelI.blk_lt (h:RelI I0 X w0 I g s a w) {j b:Nat} (hj:A1 s j) (hb:M9 (g j) b):b<w.heap.size:=by
 obtain⟨o,ho,hd⟩:=hj;exact((h.obj j o ho).blk hd b hb).1
theorem RelI.box (h:RelI I0 X w0 I g s a w) {us:List Value} {cs:List V} (hus:f9 I w g us cs) (h1:∀u∈us,u.oneCell'=true) (t:TypeId) :
  ∃g',g' s.o.length=.pointer (some ⟨w.heap.size,0,none⟩)/\RelI I0 X w0 I g' (s.obj (.box cs)) a (w.alloc (.cells us.toArray t)):=by
 have hb:Below w.heap.size w (w.alloc (.cells us.toArray t)):=(Below.refl _ _).alloc (c2A _) _;have h2:=h.grow hb (I':=I) (λ_ _ h=>h) (λ_ _ h=>.inl h);have hk:n7 I w (w.alloc (.cells us.toArray t)):=λb k hbk i _=>hb.cell (p:=⟨b,i,none⟩) (h.lt b k hbk).1
 refine⟨upd g s.o.length (.pointer (some ⟨w.heap.size,0,none⟩)),d9 ..,h2.newObj _ _ ⟨w.heap.size,us,(t,[]),d9 ..,by rw[c3b];exact heap_alloc_new w _,(hus.more (h.fresh _)).mono (λ_ _ h=>h) hk,h1,λk hk'=>?_,.inl h.fr.size⟩ λj b hj hbj e=>?_⟩
 ·exact absurd (h.lt _ _ hk').1 (by omega)
 ·have e:w.heap.size=b:=e;have:=h.blk_lt hj hbj;omega
theorem RelI.obNew (h:RelI I0 X w0 I g s a w) (us:List Value) (t:TypeId) :
  ∃g',g' s.o.length=.pointer (some ⟨w.heap.size,0,none⟩)/\RelI I0 X w0 I g' (s.obj (.ob t us)) a (w.alloc (.cells us.toArray t)):=by
 have hb:Below w.heap.size w (w.alloc (.cells us.toArray t)):=(Below.refl _ _).alloc (c2A _) _;have h2:=h.grow hb (I':=I) (λ_ _ h=>h) (λ_ _ h=>.inl h);refine⟨upd g s.o.length (.pointer (some ⟨w.heap.size,0,none⟩)),d9 ..,h2.newObj _ _ ⟨w.heap.size,d9 ..,heap_alloc_new w _,λk hk'=>?_,.inl h.fr.size⟩ λj b hj hbj e=>?_⟩
 ·exact absurd (h.lt _ _ hk').1 (by omega)
 ·have e:w.heap.size=b:=e;have:=h.blk_lt hj hbj;omega
theorem N2 {s:S} {k:Nat} {o o':O} (hk:s.o[k]?=some o) (hd:o≠.dead) {j:Nat} (h:A1 ⟨s.t,s.o.set k o'⟩ j):A1 s j:=by
 obtain⟨oj,hoj,hdj⟩:=h
 by_cases e:k=j
 ·subst e;exact⟨o,hk,hd⟩
 ·simp only[c2L e] at hoj;exact⟨oj,hoj,hdj⟩
theorem RelI.store (h:RelI I0 X w0 I g s a w) {k n:Nat} {cs ds r:List V} {vs:List Value} (hk:s.o[k]?=some (.box cs)) (hv:f9 I w g vs ds) (h1:∀u∈vs,u.oneCell'=true) (hr:splice cs n ds=some r) :
  ∃(b:Nat) (us:List Value) (t:TypeId),g k=.pointer (some ⟨b,0,none⟩)/\w.heap[b]?=some (.cells us.toArray t (0,0))/\n+vs.length<=us.length/\RelI I0 X w0 I g ⟨s.t,s.o.set k (.box r)⟩ a (w.setRow b (us.take n++vs++us.drop (n+vs.length)).toArray):=by
 obtain⟨b,us,t,hg,hb,hus,h1s,hI,hM⟩:=h.obj k _ hk;obtain⟨er,hl⟩:=Y3 hr;have hnl:n+vs.length<=us.length:=by rw[hv.1,hus.1];exact hl
 refine⟨b,us++t.2,t.1,hg,hb,by rw[c29];omega,?_⟩;rw[List.take_append_of_le_length (by omega),List.drop_append_of_le_length hnl,<-c3m];have hblk:M9 (g k) b:=by rw[hg];rfl
 have hlk:A1 s k:=⟨_,hk,by simp⟩
 have hkp:n7 I w (w.setRow b (us.take n++vs++us.drop (n+vs.length)++t.2).toArray):=λb' h' hi i _=>by
  refine cell_setRow_other _ _ _ _ λe=>?_
  simp only at e;subst e;exact hI _ hi
 refine⟨h.im,λb' h' hi=>by rw[setRow_size];exact h.lt b' h' hi,?_,h.kp.trans λb k hbk i hi=>hkp b k (h.im b k hbk) i hi,by simpa using h.lo,h.st,λj o hj=>?_,λi j b' hi hj=>h.dis i j b' (N2 hk (by simp) hi) (N2 hk (by simp) hj),λj hj=>h.out j (by simpa using hj),h.tmp.mono (λ_ _ h=>h) hkp,h.dfr⟩
 ·refine⟨h.fr.os,h.fr.tape,h.fr.output,by rw[setRow_size];exact h.fr.size,λb' hb' hX=>?_⟩;rw[setRow_other _ _ _ _ (λe=>?_)]
  ·exact h.fr.block b' hb' hX
  ·subst e
   rcases hM with hM|hM
   ·omega
   ·exact hX hM
 ·by_cases e:k=j
  ·subst e;have hlt:k<s.o.length:=(c25.1 hk).1;simp only[c2S hlt] at hj;injection hj with hj;subst hj;refine⟨b,_,t,hg,setRow_heap w b _ _ t.1 (0,0) hb,(hus.splice hv hr).mono (λ_ _ h=>h) hkp,λu hu=>?_,hI,hM⟩
   rcases c2W.1 hu with hu|hu
   ·rcases c2W.1 hu with hu|hu
    ·exact h1s u (c4w hu)
    ·exact h1 u hu
   ·exact h1s u (c4K hu)
  ·simp only[c2L e] at hj;have ho:=h.obj j o hj
   by_cases hd:o=.dead
   ·subst hd;exact True.intro
   ·refine ho.keep (λ_ _ h=>h) hkp (λb' hb'=>setRow_other _ _ _ _ λe'=>?_) λ_ _ _ h=>h
    subst e';exact e (h.dis k j _ hlk ⟨o,hj,hd⟩ hblk hb')
theorem b06 {α:Type} {sz off:Nat} {ds:List α}:∀ {rows:List (List α)} {i:Nat} {row row':List α},(∀r∈rows,r.length=sz)->rows[i]?=some row->splice row off ds=some row'->(rows.set i row').flatten=rows.flatten.take (i * sz+off)++ds++rows.flatten.drop (i * sz+off+ds.length)
 | [],i,row,row',_,h,_=>by simp at h
 | r::rows,0,row,row',hl,h,hs=>by
  simp at h
  subst h;obtain⟨e,hle⟩:=Y3 hs;subst e;have hr:=hl r (c27 ..);rw[List.set_cons_zero,c3x,c3x,Nat.zero_mul,c3v,List.take_append_of_le_length (by omega),List.drop_append_of_le_length hle]
  simp
 | r::rows,i+1,row,row',hl,h,hs=>by
  have hr:=hl r (c27 ..);have ih:=b06 (λx hx=>hl x (c26 _ hx)) (by simpa using h) hs;have e1:(i+1) * sz+off=r.length+(i * sz+off):=by rw[hr,c3N];omega
  rw[List.set_cons_succ,c3x,c3x,ih,e1,List.take_length_add_append,c3J r.length,List.drop_length_add_append]
  simp
theorem RelI.setEl (h:RelI I0 X w0 I g s a w) {k e i off:Nat} {rows:List (List D)} {row ds row':List D} {vs:List Value} (hk:s.o[k]?=some (.row false e rows)) (hr:rows[i]?=some row) (hv:s8 I w vs ds) (hs:splice row off ds=some row') :
  ∃(b n cap:Nat) (cur:Array Value),g k=.slice (some ⟨b,0,none⟩) n cap/\w.heap[b]?=some (.cells cur e (0,0))/\i * (ty e).sz+off+vs.length<=cur.size/\RelI I0 X w0 I g ⟨s.t,s.o.set k (.row false e (rows.set i row'))⟩ a (w.setRow b (cur.toList.take (i * (ty e).sz+off)++vs++cur.toList.drop (i * (ty e).sz+off+vs.length)).toArray):=by
 obtain⟨us,h1,h2,h3,h4⟩:=h.obj k _ hk;have hlt:i<rows.length:=(c25.1 hr).1;have hrl:=h2 _ (c2F hr);obtain⟨es,hle⟩:=Y3 hs
 rcases h1.2 with⟨_,e2⟩|⟨b,cap,cur,hg,_,hb,hnc,hcm,hcs,htk⟩
 ·omega
 have hblk:M9 (g k) b:=by rw[hg];rfl
 have hown:=h4 b (by rw[hg];rfl);have hI:∀h',¬I b h':=λh' hi=>by have:=(hown.2.1 h' hi).1;cases this
 have hM:=hown.2.2;have hlk:A1 s k:=⟨_,hk,by simp⟩;have hsub:i * (ty e).sz+(ty e).sz<=rows.length * (ty e).sz:=by rw[<-c3N];exact c31 _ hlt
 have hcap:rows.length * (ty e).sz<=cap * (ty e).sz:=c31 _ hnc;have hfit:i * (ty e).sz+off+vs.length<=rows.length * (ty e).sz:=by rw[hv.1];omega
 refine⟨b,rows.length,cap,cur,hg,hb,by omega,?_⟩;generalize hp:i * (ty e).sz+off=p at *
 have hkp:n7 I w (w.setRow b (cur.toList.take p++vs++cur.toList.drop (p+vs.length)).toArray):=λb' h' hi i _=>by
  refine cell_setRow_other _ _ _ _ λe=>?_
  simp only at e;subst e;exact hI _ hi
 refine⟨h.im,λb' h' hi=>by rw[setRow_size];exact h.lt b' h' hi,?_,h.kp.trans λb k hbk i hi=>hkp b k (h.im b k hbk) i hi,by simpa using h.lo,h.st,λj o hj=>?_,λi j b' hi hj=>h.dis i j b' (N2 hk (by simp) hi) (N2 hk (by simp) hj),λj hj=>h.out j (by simpa using hj),h.tmp.mono (λ_ _ h=>h) hkp,h.dfr⟩
 ·refine⟨h.fr.os,h.fr.tape,h.fr.output,by rw[setRow_size];exact h.fr.size,λb' hb' hX=>?_⟩;rw[setRow_other _ _ _ _ (λe=>?_)]
  ·exact h.fr.block b' hb' hX
  ·subst e
   rcases hM with hM|hM
   ·omega
   ·exact hX hM
 ·by_cases e':k=j
  ·subst e';have hlt:k<s.o.length:=(c25.1 hk).1;simp only[c2S hlt] at hj;injection hj with hj;subst hj;have hcl:cur.toList.length=cap * (ty e).sz:=by simpa using hcs
   refine⟨us.take p++vs++us.drop (p+vs.length),⟨?_,.inr ⟨b,cap,_,by rw[hg,c2K],c3d _,setRow_heap w b _ _ e (0,0) hb,by rw[c2K];exact hnc,hcm,?_,?_⟩⟩,λr hrm=>?_,?_,λb' hb'=>?_⟩
   ·rw[c2K,c29,c29,c3h,c3K,h1.1];omega
   ·simp only[c4t,c29,c3h,c3K,hcl];omega
   ·have hA:(cur.toList.take p++vs).length=p+vs.length:=by rw[c29,c3h,hcl];omega
    rw[c2K,List.take_append,c3r (by rw[hA];omega),hA,<-htk,List.take_take,c4N (by omega),List.drop_take]
   ·rcases c36 hrm with hrm|rfl
    ·exact h2 r hrm
    ·rw[es,c29,c29,c3h,c3K];omega
   ·rw[b06 h2 hr hs,hp];rw[<-hv.1];exact(((h3.take p).append hv).append (h3.drop _)).mono (λ_ _ h=>h) hkp
   ·rw[hg] at hb';have hb':=Option.some.inj hb';subst hb';exact⟨λhz=>(by cases hz),λh' hi=>absurd hi (hI h'),hM⟩
  ·simp only[c2L e'] at hj;have ho:=h.obj j o hj
   by_cases hd:o=.dead
   ·subst hd;exact True.intro
   ·refine ho.keep (λ_ _ h=>h) hkp (λb' hb'=>setRow_other _ _ _ _ λe''=>?_) λ_ _ _ h=>h
    subst e'';exact e' (h.dis k j _ hlk ⟨o,hj,hd⟩ hblk hb')
theorem N3 {g':Nat->Value} {k:Nat} (hg:∀j,j≠k->g' j=g j) (hk:H6 (g k)=true->g' k=g k) {v:Value} {x:V} (h:AtV I w g v x):AtV I w g' v (a61 k x):=by
 have hp:∀j,H6 (g j)=true->g' j=g j:=λj e=>by
  by_cases hj:j=k
  ·subst hj;exact hk e
  ·exact hg j hj
 cases h with
 | d h=>exact .d h
 | ag us cs hl h=>exact .jk _
 | tu us cs hl h=>exact .jk _
 | em=>exact .em
 | own j A n cap h =>
  show AtV I w g' _ (match B8 j k with|true=>.jk|false=>.own j);cases e:B8 j k
  ·exact .own j A n cap ((congrArg gv (hg j (Y0.1 e))).trans h)
  ·exact .jk _
 | ptr j off b h=>exact .ptr j off b ((hp j (by rw[h];rfl)).trans h)
 | mp j b h=>exact .mp j b ((hp j (by rw[h];rfl)).trans h)
 | cl f us ks hl h =>
  exact .cl f us ks hl λi u j hu hj=>by
   obtain⟨h1,b,h2⟩:=h i u j hu hj;have h3:=hp j (by rw[h2];rfl);exact⟨h1.trans h3.symm,b,h3.trans h2⟩
 | el j i sz off b n cap h =>
  show AtV I w g' _ (match B8 j k with|true=>.jk|false=>.el j i sz off);cases e:B8 j k
  ·exact .el j i sz off b n cap ((hg j (Y0.1 e)).trans h)
  ·exact .jk _
 | ro b o off us cs hi hc hd=>exact .ro b o off us cs hi hc hd
 | bs j n b cap h hn=>exact .bs j n b cap ((hp j (by rw[h];rfl)).trans h) hn
 | jk v=>exact .jk v
theorem a25 {g':Nat->Value} {k:Nat} (hg:∀j,j≠k->g' j=g j) (hk:H6 (g k)=true->g' k=g k):∀ {cs:List V} {us:List Value},f9 I w g us cs->f9 I w g' us (w7 k cs)
 | [],us,h=>by rw[h.unnil];exact .nil I w g'
 | c::cs,us,h=>by
  obtain⟨u,us',rfl,h1,h2⟩:=h.uncons;exact .cons (N3 hg hk h1) (a25 hg hk h2)
theorem b6h {g':Nat->Value} {k:Nat} (hg:∀j,j≠k->g' j=g j) (hk:H6 (g k)=true->g' k=g k) {v:Value} {x:V} (h:AtV I w g v x):AtV I w g' v (C2 k x):=by
 cases x with
 | ag cs =>
  obtain⟨us,rfl,h2⟩:=h.unag;exact a00 (a25 hg hk h2)
 | tu cs =>
  cases cs with
  | nil =>
   obtain⟨us,rfl,h2⟩:=h.untu;rw[h2.unnil];exact a0S (.nil I w g')
  | cons c cs=>exact .jk _
 | d x=>exact N3 hg hk h
 | em=>exact N3 hg hk h
 | own j=>exact N3 hg hk h
 | ptr j off=>exact N3 hg hk h
 | cl f ks=>exact N3 hg hk h
 | el j i sz off=>exact N3 hg hk h
 | ro cs off=>exact N3 hg hk h
 | mp k=>exact N3 hg hk h
 | bs k n=>exact N3 hg hk h
 | jk=>exact .jk _
theorem a4w {g':Nat->Value} {k:Nat} (hg:∀j,j≠k->g' j=g j) (hk:H6 (g k)=true->g' k=g k):∀ {cs:List V} {us:List Value},f9 I w g us cs->f9 I w g' us (G9 k cs)
 | [],us,h=>by rw[h.unnil];exact .nil I w g'
 | c::cs,us,h=>by
  obtain⟨u,us',rfl,h1,h2⟩:=h.uncons;exact .cons (b6h hg hk h1) (a4w hg hk h2)
theorem a0I (k:Nat):∀(l:List O) (j:Nat) (o:O),(y8 k l)[j]?=some o->∃o',l[j]?=some o'/\(o≠.dead->o'≠.dead)/\((∃cs,o'=.box cs/\o=.box (w7 k cs))\/(∃ks,o'=.kl ks/\o=.kl (k::ks))\/(o=o'/\(∀cs,o≠.box cs)/\∀ks,o≠.kl ks))
 | [],j,o,h=>by simp[y8] at h
 | x::l,0,o,h=>by
  cases x with
  | box cs=>simp[y8] at h;exact⟨_,rfl,λ_=>by simp,.inl ⟨cs,rfl,h.symm⟩⟩
  | kl ks=>simp[y8] at h;exact⟨_,rfl,λ_=>by simp,.inr (.inl ⟨ks,rfl,h.symm⟩)⟩
  | row z e rows=>simp[y8] at h;subst h;exact⟨_,rfl,λh=>h,.inr (.inr ⟨rfl,by simp,by simp⟩)⟩
  | mp kt es=>simp[y8] at h;subst h;exact⟨_,rfl,λh=>h,.inr (.inr ⟨rfl,by simp,by simp⟩)⟩
  | it P=>simp[y8] at h;subst h;exact⟨_,rfl,λh=>h,.inr (.inr ⟨rfl,by simp,by simp⟩)⟩
  | ob T vs=>simp[y8] at h;subst h;exact⟨_,rfl,λh=>h,.inr (.inr ⟨rfl,by simp,by simp⟩)⟩
  | dead=>simp[y8] at h;subst h;exact⟨_,rfl,λh=>h,.inr (.inr ⟨rfl,by simp,by simp⟩)⟩
 | x::l,j+1,o,h=>by
  have h':(y8 k l)[j]?=some o:=by cases x <;> simpa [y8] using h
  obtain⟨o',h1,h2⟩:=a0I k l j o h';exact⟨o',by simpa using h1,h2⟩
theorem Q5 (k:Nat):∀l:List O,(y8 k l).length=l.length
 | []=>rfl
 | x::l=>by cases x <;> simp[y8,Q5 k l]
theorem a64 (k:Nat) (z:Bool) (e:Nat) (r:List (List D)):∀l:List O,y8 k (o6 l (.row z e r))=o6 (y8 k l) (.row z e r)
 | []=>rfl
 | x::l=>by cases x <;> simp[o6,y8,a64 k z e r l]
theorem RelI.kill (h:RelI I0 X w0 I g s a w) (k:Nat):RelI I0 X w0 I g ⟨G9 k s.t,y8 k s.o⟩ a w:=by
 refine⟨h.im,h.lt,h.fr,h.kp,by simpa [Q5] using h.lo,h.st,λj o hj=>?_,λi j b hi hj=>?_,λj hj=>?_,a4w (λ_ _=>rfl) (λ_=>rfl) h.tmp,h.dfr⟩
 ·obtain⟨o',ho',hdd,hsh⟩:=a0I k s.o j o hj;have hob:=h.obj j o' ho'
  rcases hsh with⟨cs,rfl,rfl⟩|⟨ks,rfl,rfl⟩|⟨rfl,hnb,hnf⟩
  ·obtain⟨b,us,t,h1,h2,h3,h4⟩:=hob;exact⟨b,us,t,h1,h2,a25 (λ_ _=>rfl) (λ_=>rfl) h3,h4⟩
  ·obtain⟨us,h1,h2,h3⟩:=hob;exact⟨us,h1,h2,λi u hu=>(h3 i u hu).imp id (Or.imp id (c26 _))⟩
  ·exact hob
 ·have live':∀j,A1 ⟨G9 k s.t,y8 k s.o⟩ j->A1 s j:=λj hj=>by
   obtain⟨o,ho,hd⟩:=hj;obtain⟨o',ho',hdd,_⟩:=a0I k s.o j o ho;exact⟨o',ho',hdd hd⟩
  exact h.dis i j b (live' i hi) (live' j hj)
 ·have hj:(y8 k s.o).length<=j:=hj;rw[Q5] at hj;exact h.out j hj
theorem RelI.freshly {m:Bool} {z:Bool} {e:Nat} {r:List (List D)} (h:RelI I0 X w0 I g (s.obj (.row z e r)) a w):RelI I0 X w0 I g (s.fresh m (.row z e r)) a w:=by
 cases m with
 | true=>exact h
 | false =>
  have h1:=h.kill (j2 s.o);have e1:y8 (j2 s.o) (s.obj (.row z e r)).o=o6 (y8 (j2 s.o) s.o) (.row z e r):=a64 ..;rw[e1] at h1;exact h1
end
end
section
theorem Y4 {P:Program} (w:World) (base:Nat) (t ty e:TypeId) (i:TypeInfo) (z:Value) (size bytes:Nat) (ht:P.underlying t=some (.slice e)) (hi:P.info? e=some i) (hz:i.zero=some z)
  (hsize:i.size=size) (hby:i.bytes=bytes) (hzs:z.cells.size=size) (hpos:0<size) (v:Value) (n:Nat) (xs:List Value) (hown:w.ownsRow base e size v n xs)
  (A:Option Addr) (m c:Nat) (ys:List Value) (hs:b6e w A m size ys) (h63:n+m<=maxLen) (hbytes:(n+m) * bytes<=140737488355328) (hbase:base<=w.heap.size) :
  ∃v' w',(Builtin.append_ #[t,t] ty #[v,.slice A m c]).run P w=.ok v' w'/\w'.ownsRow base e size v' (n+m) (xs++ys) /\
   ((∃g,v.ownBlock=some g/\v'.ownBlock=some g/\w.grownBy w' (some g))\/(Below w.heap.size w w'/\(v'.ownBlock=none\/v'.ownBlock=some w.heap.size))):=by
 obtain⟨hl,hn,hc,h1⟩:=hs
 rcases A with _|ad
 ·have hm:=hn rfl;subst hm;have hys:ys=[]:=c2M (by rw[hl,Nat.zero_mul]);subst hys;refine⟨v,w,?_,by simpa using hown,?_⟩
  ·rcases hown.2 with⟨rfl,rfl⟩|⟨g,cap,cur,rfl,_,_,hnc,_⟩
   ·simp[Builtin.append_,run_underlying ht,sizeOf,typeInfo,hi,Builtin.lenOf,Builtin.firstCells]
   ·simp[Builtin.append_,run_underlying ht,sizeOf,typeInfo,hi,Builtin.lenOf,Builtin.firstCells,hnc,storeCells]
  ·cases hb:v.ownBlock with
   | none=>exact .inr ⟨Below.refl _ _,.inl rfl⟩
   | some g=>exact .inl ⟨g,rfl,rfl,World.grownBy.refl w _⟩
 ·obtain⟨v',w',hrun,h2,h3,_,hat⟩:=run_append_own_at (P:=P) w base t ty e i z size bytes ht hi hz hsize hby hzs hpos v n xs hown ad m c ys hl (hc ad rfl) h1 h63 hbytes hbase;refine⟨v',w',hrun,h2,?_⟩;subst hsize
  subst hby
  rcases hown.2 with⟨rfl,rfl⟩|⟨g,cap,cur,rfl,hbg,hg,hnc,hcm,hcs,htake⟩
  ·exact .inr ⟨⟨h3.os,h3.tape,h3.output,h3.size,λk hk=>h3.block k hk (by simp[Value.ownBlock])⟩,hat⟩
  ·by_cases hroom:n+m<=cap
   ·have hfit:n * i.size+ys.length<=cur.size:=by rw[hl,hcs,<-c46];exact c31 _ hroom
    have hr:=run_append_room (P:=P) w t ty e i ht hi g n cap cur hg ad m c ys hl (hc ad rfl) h1 hroom hfit;rw[hrun] at hr;injection hr with e1 e2;subst e1;exact .inl ⟨g,rfl,rfl,h3⟩
   ·have holds:∀j u,xs[j]?=some u->w.cell? ((⟨g,0,none⟩:Addr).add j)=some u:=hown.cells (g:=g) rfl;have hr:=run_append_grow (P:=P) w t ty e i z ht hi hz ⟨g,0,none⟩ n cap xs hown.1 holds ad m c ys hl (hc ad rfl) (by omega) (by unfold maxLen at h63;omega) (growslice_fits (by omega) hbytes);rw[hrun] at hr;injection hr with e1 e2;subst e1;subst e2;exact .inr ⟨((Below.refl _ _).drew).alloc (c2A _) _,.inr rfl⟩
theorem a26 {w w':World} {b:Nat} (h:w'.heap[b]?=w.heap[b]?) (o:Nat):w'.cell? ⟨b,o,none⟩=w.cell? ⟨b,o,none⟩:=by simp only[World.cell?,h]
section
variable {I0:Nat->Nat->Prop} {X:Nat->Prop} {w0:W0} {I:Nat->Nat->Prop} {g:Nat->Value} {s:S} {a:Act} {w:World}
theorem b4Q {w w':World} {base e sz n m:Nat} {v v':Value} {us vs:List Value} (h:w.ownsRow base e sz v n us) (h':w'.ownsRow base e sz v' (n+m) (us++vs)) {b:Nat} (hb:v.ownBlock=some b) (hb':v'.ownBlock=some b) {i:Nat} (hi:i<n * sz) :
  w'.cell? ⟨b,i,none⟩=w.cell? ⟨b,i,none⟩:=by
 have e1:∀ {w:World} {v:Value} {n:Nat} {us:List Value},w.ownsRow base e sz v n us->v.ownBlock=some b->∀i,i<n * sz->w.cell? ⟨b,i,none⟩=us[i]?:=λ{w v n us} h hb i hi=>by
  rcases h.2 with⟨rfl,_⟩|⟨g,cap,cur,rfl,_⟩
  ·cases hb
  ·injection hb with hb;subst hb;exact World.ownsRow.cellAt h i hi
 rw[e1 h hb i hi,e1 h' hb' i (by rw[c46];omega),c2R (by rw[h.1];exact hi)]
theorem a0T {w:World} {base e sz n:Nat} {v:Value} {us:List Value} (h:w.ownsRow base e sz v n us) {b:Nat}:M9 v b↔v.ownBlock=some b:=by
 rcases h.2 with⟨rfl,_⟩|⟨g,cap,cur,rfl,_⟩
 ·exact⟨λh=>h.elim,λh=>by cases h⟩
 ·exact⟨λh=>congrArg some h,λh=>Option.some.inj h⟩
theorem a27 {w:World} {base e sz n:Nat} {v:Value} {us:List Value} (h:w.ownsRow base e sz v n us):gv v=v:=by
 rcases h.2 with⟨rfl,_⟩|⟨g,cap,cur,rfl,_⟩ <;> rfl
theorem L8 {w:World} {base e sz n:Nat} {v:Value} {us:List Value} (h:w.ownsRow base e sz v n us):∃A cap,v=.slice A n cap:=by
 rcases h.2 with⟨rfl,h0⟩|⟨g,cap,cur,rfl,_⟩
 ·subst h0;exact⟨_,_,rfl⟩
 ·exact⟨_,_,rfl⟩
theorem RelI.appended (h:RelI I0 X w0 I g s a w) {k e:Nat} {z:Bool} {xs ys:List (List D)} (hk:s.o[k]?=some (.row z e xs)) {us vs:List Value} (hown:w.ownsRow 0 e (ty e).sz (g k) xs.length us) (hys:∀r∈ys,r.length=(ty e).sz) (hvs:s8 I w vs ys.flatten)
  {v':Value} {w':World} (hown':w'.ownsRow 0 e (ty e).sz v' (xs.length+ys.length) (us++vs)) (hsp:(∃b,(g k).ownBlock=some b/\v'.ownBlock=some b/\w.grownBy w' (some b))\/(Below w.heap.size w w'/\(v'.ownBlock=none\/v'.ownBlock=some w.heap.size))) :
  ∃I' g',g' k=v'/\RelI I0 X w0 I' g' ⟨G9 k s.t,(y8 k s.o).set k (.row z e (xs++ys))⟩ a w':=by
 have hok:=h.obj k _ hk;obtain⟨us2,ho2,hr2,hd2,hb2⟩:=hok
 have hus:us2=us:=by
  have h1:=ho2.1;have h2:=hown.1
  rcases ho2.2 with⟨e1,e2⟩|⟨g1,cap,cur,e1,_,hh,_,_,_,ht⟩
  ·rw[e2,Nat.zero_mul] at h1 h2;rw[c2M h1,c2M h2]
  ·rcases hown.2 with⟨e3,e4⟩|⟨g2,cap2,cur2,e3,_,hh2,_,_,_,ht2⟩
   ·rw[e1] at e3;cases e3
   ·rw[e1] at e3;injection e3 with e3 _ _;injection e3 with e3;injection e3 with e3;subst e3;rw[hh] at hh2;injection hh2 with hh2;injection hh2 with hh2;subst hh2;rw[<-ht,<-ht2]
 subst hus;have hgk:∀ {b},M9 (g k) b↔(g k).ownBlock=some b:=a0T hown;have hnp:H6 (g k)=true->upd g k v' k=g k:=λe=>by obtain⟨A,cap,e2⟩:=L8 hown;rw[e2] at e;cases e
 have hlk:A1 s k:=⟨_,hk,by simp⟩;have hlt:k<s.o.length:=(c25.1 hk).1;have hI':∀b k',I b k'->(λb k'=>I b k'\/(z=true/\v'.ownBlock=some b/\k'<=(xs.length+ys.length) * (ty e).sz)) b k':=λb k' h=>.inl h
 have hlen:xs.length * (ty e).sz<=(xs.length+ys.length) * (ty e).sz:=c31 _ (by omega)
 have hsz:w.heap.size<=w'.heap.size:=by
  rcases hsp with⟨_,_,_,h3⟩|⟨h3,_⟩
  ·exact h3.size
  ·exact h3.size
 have hother:∀b,b<w.heap.size->(g k).ownBlock≠some b->w'.heap[b]?=w.heap[b]?:=λb hb hne=>by
  rcases hsp with⟨c,h1,_,h3⟩|⟨h3,_⟩
  ·exact h3.block b hb (λe=>hne (by rw[h1,<-e]))
  ·exact h3.block b hb
 have hkp:n7 I w w':=λb k' hbk i hi=>by
  have hb:=(h.lt b k' hbk).1
  by_cases hne:(g k).ownBlock=some b
  ·rcases hsp with⟨c,h1,h2,h3⟩|⟨h3,_⟩
   ·rw[h1] at hne;injection hne with hne;subst hne;exact b4Q hown hown' h1 h2 (c3y hi ((hb2 c h1).2.1 _ hbk).2)
   ·exact a26 (h3.block b hb) i
  ·exact a26 (hother b hb hne) i
 have hnew:∀b,v'.ownBlock=some b->(g k).ownBlock=some b\/b=w.heap.size:=λb hb=>by
  rcases hsp with⟨c,h1,h2,_⟩|⟨_,h2|h2⟩
  ·rw[h2] at hb;injection hb with hb;subst hb;exact .inl h1
  ·rw[h2] at hb;cases hb
  ·rw[h2] at hb;injection hb with hb;exact .inr hb.symm
 have hlt':∀b,v'.ownBlock=some b->b<w'.heap.size:=λb hb=>(hown'.lt b hb).2
 have hmine:∀b,v'.ownBlock=some b->a12 X w0 b:=λb hb=>by
  rcases hnew b hb with h1|rfl
  ·exact(hb2 b h1).2.2
  ·exact .inl h.fr.size
 have hg':∀j,j≠k->upd g k v' j=g j:=λj hj=>r8 hj
 refine⟨λb k'=>I b k'\/(z=true/\v'.ownBlock=some b/\k'<=(xs.length+ys.length) * (ty e).sz),upd g k v',d9 ..,?_⟩;refine⟨λb k' hb=>.inl (h.im b k' hb),λb k' hb=>?_,?_,h.kp.trans λb k hbk i hi=>hkp b k (h.im b k hbk) i hi,by simpa [Q5] using h.lo,λj hj hr=>?_,λj o hj=>?_,λi j b hi hj hbi hbj=>?_,λj hj=>?_,?_,h.dfr⟩
 ·rcases hb with hb|⟨_,hb,_⟩
  ·exact⟨c3y (h.lt b k' hb).1 hsz,(h.lt b k' hb).2⟩
  ·refine⟨hlt' b hb,λhlt0=>?_⟩
   rcases hmine b hb with h1|h1
   ·omega
   ·exact .inr h1
 ·have hf:=h.fr
  have hos:w'.os=w.os/\w'.tape=w.tape/\w'.output=w.output:=by
   rcases hsp with⟨_,_,_,h3⟩|⟨h3,_⟩
   ·exact⟨h3.os,h3.tape,h3.output⟩
   ·exact⟨h3.os,h3.tape,h3.output⟩
  refine⟨hos.1.trans hf.os,hos.2.1.trans hf.tape,hos.2.2.trans hf.output,c3E hf.size hsz,λb hb hX=>?_⟩;rw[hother b (c3y hb hf.size) λe=>?_]
  ·exact hf.block b hb hX
  ·rcases (hb2 b e).2.2 with h1|h1
   ·omega
   ·exact hX h1
 ·have e:=h.st j hj hr;refine(hg' j λej=>?_).trans e;subst ej;rw[<-e] at hr
  rcases hown.2 with⟨e1,_⟩|⟨_,_,_,e1,_⟩ <;> rw[e1] at hr <;> cases hr
 ·by_cases hjk:k=j
  ·subst hjk;simp only[c2S (show k<(y8 k s.o).length by rw[Q5];exact hlt)] at hj;injection hj with hj;subst hj;refine⟨us2++vs,by rw[d9,c29];exact hown',λr hr=>?_,?_,λb hb=>?_⟩
   ·rcases c2W.1 hr with hr|hr
    ·exact hr2 r hr
    ·exact hys r hr
   ·rw[c4k];exact((hd2.append hvs)).mono hI' hkp
   ·rw[d9] at hb;rw[c29];refine⟨λhz=>.inr ⟨hz,hb,c2A _⟩,λk' hk'=>?_,hmine b hb⟩
    rcases hk' with hk'|⟨hz,_,hk'⟩
    ·rcases hnew b hb with h1|rfl
     ·have h2:=(hb2 b h1).2.1 _ hk';exact⟨h2.1,c3E h2.2 hlen⟩
     ·exact absurd (h.lt _ _ hk').1 (by omega)
    ·exact⟨hz,hk'⟩
  ·simp only[c2L hjk] at hj;obtain⟨o',ho',hdd,hsh⟩:=a0I k s.o j o hj
   by_cases hd:o=.dead
   ·subst hd;exact True.intro
   have hob:=h.obj j o' ho';have hd':=hdd hd;have hne:∀b,M9 (g j) b->(g k).ownBlock≠some b:=λb hb e=>hjk (h.dis k j b hlk ⟨o',ho',hd'⟩ (hgk.2 e) hb)
   have hkeep:W7 X w0 (λb k'=>I b k'\/(z=true/\v'.ownBlock=some b/\k'<=(xs.length+ys.length) * (ty e).sz)) w' g j o':=by
    refine hob.keep hI' hkp (λb hb=>hother b (hob.blk hd' b hb).1 (hne b hb)) λb hb k' hk'=>?_
    rcases hk' with hk'|⟨_,hk',_⟩
    ·exact hk'
    ·rcases hnew b hk' with h1|rfl
     ·exact absurd h1 (hne b hb)
     ·exact absurd (hob.blk hd' _ hb).1 (by omega)
   rcases hsh with⟨cs,rfl,rfl⟩|⟨ks,rfl,rfl⟩|⟨rfl,hnb,hnf⟩
   ·obtain⟨b,us,t,h1,h2,h3,h4⟩:=hkeep;exact⟨b,us,t,by rw[r8 (c3P hjk)];exact h1,h2,a25 hg' hnp h3,h4⟩
   ·obtain⟨us,h1,h2,h3⟩:=hkeep;refine⟨us,by rw[r8 (c3P hjk)];exact h1,h2,λi u hu=>?_⟩
    by_cases e:i=k
    ·exact .inr (.inr (by rw[e];exact c27 ..))
    ·rcases h3 i u hu with h4|h4|h4
     ·exact .inl h4
     ·exact .inr (.inl (by rw[r8 e];exact h4))
     ·exact .inr (.inr (c26 _ h4))
   ·cases o with
    | dead=>exact True.intro
    | box cs=>exact absurd rfl (hnb cs)
    | kl ks=>exact absurd rfl (hnf ks)
    | mp kt es =>
     obtain⟨b,l,c,h1,h2⟩:=hkeep;exact⟨b,l,c,by rw[r8 (c3P hjk)];exact h1,h2⟩
    | ob T vs =>
     obtain⟨b,h1,h2⟩:=hkeep;exact⟨b,by rw[r8 (c3P hjk)];exact h1,h2⟩
    | it P =>
     obtain⟨A,n,cap,F,h1,h2⟩:=hkeep;exact⟨A,n,cap,F,by rw[r8 (c3P hjk)];exact h1,h2⟩
    | row z2 e2 rows =>
     obtain⟨us,h1,h2,h3,h4⟩:=hkeep;exact⟨us,by rw[r8 (c3P hjk)];exact h1,h2,h3,by rw[r8 (c3P hjk)];exact h4⟩
 ·have live':∀j,A1 ⟨G9 k s.t,(y8 k s.o).set k (.row z e (xs++ys))⟩ j->A1 s j:=λj hj=>by
   obtain⟨o,ho,hd⟩:=hj
   by_cases hjk:k=j
   ·subst hjk;exact hlk
   ·simp only[c2L hjk] at ho;obtain⟨o',ho',hdd,_⟩:=a0I k s.o j o ho;exact⟨o',ho',hdd hd⟩
  have hi':=live' i hi;have hj':=live' j hj;have hv'b:∀ {b},M9 v' b↔v'.ownBlock=some b:=a0T hown'
  have cross:∀j,j≠k->A1 s j->M9 (g j) b->¬M9 v' b:=λj hjk hl hb e=>by
   have e:=hv'b.1 e
   rcases hnew b e with h1|rfl
   ·exact hjk (h.dis j k b hl hlk hb (hgk.2 h1))
   ·have:=h.blk_lt hl hb;omega
  by_cases hik:i=k <;> by_cases hjk:j=k
  ·rw[hik,hjk]
  ·subst hik;rw[d9] at hbi;rw[r8 hjk] at hbj;exact absurd hbi (cross j hjk hj' hbj)
  ·subst hjk;rw[d9] at hbj;rw[r8 hik] at hbi;exact absurd hbj (cross i hik hi' hbi)
  ·rw[r8 hik] at hbi;rw[r8 hjk] at hbj;exact h.dis i j b hi' hj' hbi hbj
 ·simp only[c2K,Q5] at hj;rw[r8 (by omega)];exact h.out j hj
 ·exact(a4w hg' hnp h.tmp).mono hI' hkp
end
end
section
theorem a0C {t:Nat} (h:c8 t=true):∃x z,Tryd.prog.info? t=some x/\x.size=(ty t).sz/\x.zero=some z/\z.cells=(ty t).zero.toArray/\(ty t).zero.length=(ty t).sz/\x.bytes<=1024:=by
 have hk:=a39 t h;have hi:=hk.info;have hb:=hk.bytes;cases hx:Tryd.prog.info? t with
 | none=>rw[hx] at hi;cases hi
 | some x =>
  rw[hx] at hi hb;simp only[c3F,Option.some.injEq,Prod.mk.injEq] at hi;cases hz:x.zero with
  | none=>rw[hz] at hi;simp at hi
  | some z =>
   rw[hz] at hi;simp only[c3F,Option.some.injEq] at hi;refine⟨x,z,rfl,hi.1,hz,hi.2,hk.len,?_⟩
   simpa using hb
theorem H8 {t:Nat} (h:c8 t=true) (w:World):(sizeOf t).run Tryd.prog w=.ok (ty t).sz w:=by
 obtain⟨x,z,h1,h2,_⟩:=a0C h
 simp[sizeOf,typeInfo,h1,h2]
theorem a4x {t:Nat} (h:c8 t=true) (w:World):∃z,(zeroValue t).run Tryd.prog w=.ok z w/\z.cells=(ty t).zero.toArray:=by
 obtain⟨x,z,h1,_,h3,h4,_⟩:=a0C h;exact⟨z,by simp[zeroValue,typeInfo,h1,h3],h4⟩
theorem a9w {t:Nat} (h:c8 t=true) (w:World):(isAgg t).run Tryd.prog w=.ok (ty t).agg w:=by
 have hk:=(a39 t h).agg;cases hu:Tryd.prog.underlying t with
 | none=>rw[hu] at hk;cases hk
 | some d =>
  rw[hu] at hk;have:=run_underlying hu w;cases d <;> simp only[b0x,Option.some.injEq] at hk <;> simp[isAgg,this,<-hk]
theorem E4 {t e:Nat} (h:c8 t=true) (he:(ty t).elem=some e):Tryd.prog.underlying t=some (.slice e):=by
 have hk:=a39 t h;have h1:=hk.elem;have h2:=hk.under;unfold a0P at h2;cases hkind:(ty t).kind <;> rw[hkind] at h1 h2 <;> simp only[he,Option.isNone_some] at h1 h2 <;> first|exact h2.1|exact absurd h1 (by decide)
theorem a3Q {t:Nat} (h:c8 t=true) (he:(ty t).kind=.str):Tryd.prog.underlying t=some .string:=by
 have h2:=(a39 t h).under;unfold a0P at h2;rw[he] at h2;exact h2
theorem a65 {t:Nat} {k:IntKind} (h:c8 t=true) (he:(ty t).kind=.int k):Tryd.prog.underlying t=some (.int k):=by
 have h2:=(a39 t h).under;unfold a0P at h2;rw[he] at h2;exact h2
theorem b2e {t:Nat} (h:c8 t=true) (he:(ty t).kind=.ptr):∃e,Tryd.prog.underlying t=some (.pointer e):=by
 have h2:=(a39 t h).under;unfold a0P at h2;rw[he] at h2;obtain⟨h3,h4⟩:=h2;cases hv:(ty t).val with
 | none=>rw[hv] at h4;cases h4
 | some e=>rw[hv] at h3;exact⟨e,h3⟩
theorem b3t {t:Nat} (h:c8 t=true) (he:(ty t).kind=.bool):Tryd.prog.underlying t=some .bool:=by
 have h2:=(a39 t h).under;unfold a0P at h2;rw[he] at h2;exact h2
theorem a66 {t e:Nat} (h:c8 t=true) (he:(ty t).kind=.array) (hv:(ty t).val=some e):Tryd.prog.underlying t=some (.array (ty t).alen e):=by
 have h2:=(a39 t h).under;unfold a0P at h2;rw[he] at h2;obtain⟨h3,h4⟩:=h2;rw[hv] at h3;exact h3
theorem b6i {t k e:Nat} (h:c8 t=true) (he:(ty t).kind=.map) (hk:(ty t).key=some k) (hv:(ty t).val=some e):Tryd.prog.underlying t=some (.map k e):=by
 have h2:=(a39 t h).under;unfold a0P at h2;rw[he] at h2;obtain⟨h3,h4⟩:=h2;rw[hk,hv] at h3;exact h3
theorem a5i {t:Nat} (h:c8 t=true) (he:(ty t).kind=.struct):∃fs,Tryd.prog.underlying t=some (.struct fs)/\fs.toList.map (λf=>(f.offset,(Tryd.prog.info? f.type).map (·.size)))=(ty t).flds.map (λx=>(x.1,some x.2))/\fs.toList.map (·.type)=(ty t).fty:=by
 have h2:=(a39 t h).under;unfold a0P at h2;rw[he] at h2;simp only at h2;cases hu:Tryd.prog.underlying t with
 | none=>rw[hu] at h2;cases h2
 | some d =>
  rw[hu] at h2;cases d <;> first|cases h2|skip
  rename_i fs;simp only[b2a,Option.some.injEq,Prod.mk.injEq] at h2;exact⟨fs,rfl,h2.1,h2.2⟩
theorem b6j {t i off sz:Nat} (h:c8 t=true) (hf:(ty t).flds[i]?=some (off,sz)):∃fs f,Tryd.prog.underlying t=some (.struct fs)/\fs[i]?=some f/\f.offset=off/\(Tryd.prog.info? f.type).map (·.size)=some sz/\(ty t).fty[i]?=some f.type/\(ty t).kind=.struct:=by
 have hk:=a39 t h
 have hst:(ty t).kind=.struct:=by
  have h1:=hk.flds;cases hkind:(ty t).kind <;> rw[hkind] at h1 <;> first|rfl|skip
  all_goals
   simp only[List.isEmpty_iff] at h1;rw[h1] at hf
   simp at hf
 obtain⟨fs,h1,h2,h3⟩:=a5i h hst;have h4:=congrArg (·[i]?) h2;simp only[c3i,hf,c3F] at h4;cases hfi:fs.toList[i]? with
 | none=>rw[hfi] at h4;cases h4
 | some f =>
  rw[hfi] at h4;simp only[c3F,Option.some.injEq,Prod.mk.injEq] at h4;refine⟨fs,f,h1,by rw[<-c3w];exact hfi,h4.1,h4.2,?_,hst⟩;rw[<-h3,c3i,hfi];rfl
theorem a13 {α:Type} {n:Nat} {l:List α} {x:α} (h:G8 1 (K3 n l)=some [x]):l[n]?=some x:=by
 rw[a0n] at h;obtain⟨h1,_⟩:=a0o h;have:=congrArg (·[0]?) h1;simp only[List.getElem?_cons_zero,c3g,c41,c4I,c3e,c3I] at this;exact this.symm
section
variable {I:Nat->Nat->Prop} {g:Nat->Value} {w:World}
theorem a9x {b:Bool} {l:List V} {x:V} {us:List Value} (hu:f9 I w g us l) (hp:a11 b l=some x):AtV I w g (if b=true then .agg us.toArray else us.getD 0 undef) x/\(b=false->us.length=1):=by
 cases b with
 | true =>
  rw[a11] at hp;injection hp with hp;subst hp;exact⟨a00 hu,by simp⟩
 | false =>
  match l,hp with
  | [y],hp =>
   rw[a11] at hp;injection hp with hp;subst hp;obtain⟨u,us',rfl,h1,h2⟩:=hu.uncons;rw[h2.unnil];exact⟨h1,λ_=>rfl⟩
theorem a9y {t b p:Nat} (ht:c8 t=true) {us:List Value} {l:List V} {x:V} (hl:us.length=(ty t).sz) (hc:∀j u,us[j]?=some u->w.cell? ⟨b,p+j,none⟩=some u) (hu:f9 I w g us l) (hp:a11 (ty t).agg l=some x) :
  ∃v,(Instr.loadAt t (.pointer (some ⟨b,p,none⟩))).run Tryd.prog w=.ok v w/\AtV I w g v x:=by
 obtain⟨hx,h1⟩:=a9x hu hp;refine⟨_,?_,hx⟩;simp only[Instr.loadAt,Instr.sureAddr,loadVar,Sem.run_bind,Sem.run_pure,Result.andThen_ok,a9w ht];cases ha:(ty t).agg with
 | true =>
  simp only[c4I,Sem.run_bind,H8 ht,Result.andThen_ok,Sem.run_pure];rw[<-hl,run_loadCells_list (P:=Tryd.prog) w ⟨b,p,none⟩ us (λj v hv=>by rw[Addr.add_lit];exact hc j v hv)];rfl
 | false =>
  have h2:=h1 ha
  match us,h2 with
  | [u],_ =>
   have h3:=hc 0 u rfl;simp only[c3I] at h3
   simp[h3]
end
end
section
def a3A (I:Nat->Nat->Prop) (w:World):List Value->List R->Prop
 | [],[]=>True
 | v::vs,r::rs=>AtR I w v r/\a3A I w vs rs
 | _,_=>False
def a28 (I:Nat->Nat->Prop) (w:World) (v:Value):List R->Prop
 | [r]=>AtR I w v r
 | rs=>∃us,v=.tuple us.toArray/\a3A I w us rs
def nxt (I:Nat->Nat->Prop) (w w':World) (b h:Nat):Prop:=I b h\/(w.heap.size<=b/\b<w'.heap.size)
def a0U (P:Program) (f:Nat):Bool:=match P.funcs[f]? with|some fn=>fn.name != "runtime.NumGoroutine" && fn.body.isSome|none=>false
def m6 (f:Nat) (rs q:List R):Prop:=a0U Tryd.prog f=true/\∀(I:Nat->Nat->Prop) (w:World) (args:List Value),Wld I w->a3A I w args rs ->
 Calls Tryd.prog f args.toArray w λe w'=>∃v,e=.returned v/\a28 (nxt I w w') w' v q/\Below w.heap.size w w'
theorem a3A.mono {I I':Nat->Nat->Prop} {w w':World} (hI:∀b h,I b h->I' b h) (hk:n7 I w w'):∀ {vs:List Value} {rs:List R},a3A I w vs rs->a3A I' w' vs rs
 | [],[],_=>trivial
 | _::_,_::_,h=>⟨h.1.mono hI hk,h.2.mono hI hk⟩
 | [],_::_,h=>h.elim
 | _::_,[],h=>h.elim
theorem a3A.len {I:Nat->Nat->Prop} {w:World}:∀ {vs:List Value} {rs:List R},a3A I w vs rs->vs.length=rs.length
 | [],[],_=>rfl
 | _::_,_::_,h=>by simp[h.2.len]
 | [],_::_,h=>h.elim
 | _::_,[],h=>h.elim
theorem a9z {I:Nat->Nat->Prop} {w:World} (g:Nat->Value) {v:Value} {r:R} (h:AtR I w v r):AtV I w g v (b8q r):=by
 cases r with
 | one x=>exact .d h
 | ag xs=>obtain⟨us,rfl,h2⟩:=h;exact a00 (h2.toV g)
theorem a4y {I:Nat->Nat->Prop} {w:World} (g:Nat->Value):∀ {vs:List Value} {rs:List R},a3A I w vs rs->f9 I w g vs (b0y rs)
 | [],[],_=>.nil I w g
 | _::_,_::_,h=>.cons (a9z g h.1) (a4y g h.2)
 | [],_::_,h=>h.elim
 | _::_,[],h=>h.elim
theorem a6k {I:Nat->Nat->Prop} {w:World} (g:Nat->Value) {v:Value} {rs:List R} (h:a28 I w v rs):AtV I w g v (a2v rs):=by
 match rs,h with
 | [],h=>obtain⟨us,rfl,h2⟩:=h;exact a0S (a4y g h2)
 | [r],h=>exact a9z g h
 | r::r'::rs,h=>obtain⟨us,rfl,h2⟩:=h;exact a0S (a4y g h2)
section
variable {I0:Nat->Nat->Prop} {X:Nat->Prop} {w0:W0} {I:Nat->Nat->Prop} {g:Nat->Value} {s:S} {a:Act} {w:World}
theorem a90 (h:RelI I0 X w0 I g s a w) {v:Value} {x:V} {d:D} (hv:AtV I w g v x) (hd:toD s.o x=some d):AtD I w v d:=by
 cases x with
 | d x=>rw[toD] at hd;injection hd with hd;subst hd;cases hv with|d h=>exact h
 | em=>rw[toD] at hd;injection hd with hd;subst hd;cases hv;exact .nil _ _ _
 | own k =>
  rw[toD] at hd
  split at hd
  ·rename_i e rows ho;injection hd with hd;subst hd;have hk:=j1 ho (by simp);obtain⟨us,h1,h2,h3,h4⟩:=h.obj k _ hk;cases hv with
   | own k A n cap hg =>
    rw[a27 h1] at hg
    rcases h1.2 with⟨e1,e2⟩|⟨g1,cap1,cur,e1,_,hh,hnc,_⟩
    ·rw[hg] at e1;injection e1 with e1 e3 e4;subst e1;subst e3;subst e4;rw[c2M e2];exact .nil _ _ _
    ·rw[hg] at e1;injection e1 with e1 e3 e4;subst e1;subst e3;subst e4;refine .sl g1 0 cap _ rows us hnc ?_ h2 h1.1 (λi u hu=>?_) h3.2
     ·rw[c3v];exact⟨_,c2A _,(h4 g1 (by rw[hg];rfl)).1 rfl⟩
     ·rw[c3v];have hlt:i<rows.length * (ty e).sz:=by rw[<-h1.1];exact(c25.1 hu).1
      rw[hg] at h1;rw[World.ownsRow.cellAt h1 i hlt,hu]
  ·cases hd
 | ag cs=>rw[toD] at hd <;> first|cases hd|simp
 | tu cs=>rw[toD] at hd <;> first|cases hd|simp
 | ptr k off=>rw[toD] at hd <;> first|cases hd|simp
 | cl f ks =>
  cases ks with
  | nil =>
   rw[toD] at hd;injection hd with hd;subst hd;cases hv with
   | cl f us ks hl h =>
    rw[c2M hl];exact .sc _ rfl
  | cons k ks=>rw[toD] at hd <;> first|cases hd|simp
 | el k i sz off=>rw[toD] at hd <;> first|cases hd|simp
 | ro cs off=>rw[toD] at hd <;> first|cases hd|simp
 | mp k=>rw[toD] at hd <;> first|cases hd|simp
 | bs k n=>rw[toD] at hd <;> first|cases hd|simp
 | jk=>rw[toD] at hd <;> first|cases hd|simp
theorem a3m (h:RelI I0 X w0 I g s a w):∀ {xs:List V} {vs:List Value} {ds:List D},f9 I w g vs xs->a2n s.o xs=some ds->s8 I w vs ds
 | [],vs,ds,hv,hd=>by
  rw[a2n] at hd;injection hd with hd;subst hd;rw[hv.unnil];exact .nil I w
 | x::xs,vs,ds,hv,hd=>by
  obtain⟨u,us,rfl,h1,h2⟩:=hv.uncons;rw[a2n] at hd
  split at hd
  ·rename_i y hy
   split at hd
   ·rename_i ys hys;injection hd with hd;subst hd;exact .cons (a90 h h1 hy) (a3m h h2 hys)
   ·cases hd
  ·cases hd
theorem a67 (h:RelI I0 X w0 I g s a w) {v:Value} {x:V} {r:R} (hv:AtV I w g v x) (hr:toR s.o x=some r):AtR I w v r:=by
 by_cases hx:∃l,x=.ag l
 ·obtain⟨l,rfl⟩:=hx;rw[toR] at hr
  split at hr
  ·rename_i ys hys;injection hr with hr;subst hr;obtain⟨us,rfl,h2⟩:=hv.unag;exact⟨us,rfl,a3m h h2 hys⟩
  ·cases hr
 ·rw[toR] at hr
  ·split at hr
   ·rename_i y hy;injection hr with hr;subst hr;exact a90 h hv hy
   ·cases hr
  ·exact λl e=>hx ⟨l,e⟩
theorem a4z (h:RelI I0 X w0 I g s a w):∀ {xs:List V} {vs:List Value} {rs:List R},f9 I w g vs xs->a0A s.o xs=some rs->a3A I w vs rs
 | [],vs,rs,hv,hd=>by
  rw[a0A] at hd;injection hd with hd;subst hd;rw[hv.unnil]
  trivial
 | x::xs,vs,rs,hv,hd=>by
  obtain⟨u,us,rfl,h1,h2⟩:=hv.uncons;rw[a0A] at hd
  split at hd
  ·rename_i y hy
   split at hd
   ·rename_i ys hys;injection hd with hd;subst hd;exact⟨a67 h h1 hy,a4z h h2 hys⟩
   ·cases hd
  ·cases hd
end
def a5R:List V->List V->Prop
 | [],[]=>True
 | _::l,.jk::m=>a5R l m
 | x::l,y::m=>x=y/\a5R l m
 | _,_=>False
def b4R:List Nat->List Nat->Bool
 | [],_=>true
 | k::l,m=>match a8i k m with|true=>b4R l m|false=>false
def a3C:List O->List O->Prop
 | _,[]=>True
 | .box cs::l,.box ds::m=>a5R cs ds/\a3C l m
 | .row z e r::l,.row z' e' r'::m=>(z=z'/\e=e'/\r=r')/\a3C l m
 | .mp k es::l,.mp k' es'::m=>(k=k'/\es=es')/\a3C l m
 | .kl ks::l,.kl ks'::m=>b4R ks ks'=true/\a3C l m
 | .it P::l,.it P'::m=>P=P'/\a3C l m
 | .ob T vs::l,.ob T' vs'::m=>(T=T'/\vs=vs')/\a3C l m
 | _::l,.dead::m=>a3C l m
 | _,_=>False
def b4S (n:Nat):List Nat->Bool
 | []=>true
 | k::l=>match Nat.blt k n with|true=>b4S n l|false=>false
def a2p (n:Nat):V->Bool
 | .own k=>Nat.blt k n
 | .ptr k _=>Nat.blt k n
 | .cl _ ks=>b4S n ks
 | .el k _ _ _=>Nat.blt k n
 | .mp k=>Nat.blt k n
 | .bs k _=>Nat.blt k n
 | .ag _=>false
 | .tu _=>false
 | _=>true
def a68 (n:Nat):List V->Bool
 | []=>true
 | x::l=>match a2p n x with|true=>a68 n l|false=>false
def b9U (n:Nat):V->Bool
 | .ag cs=>a68 n cs
 | .tu []=>true
 | .tu _=>false
 | x=>a2p n x
def a91 (n:Nat):List V->Bool
 | []=>true
 | x::l=>match b9U n x with|true=>a91 n l|false=>false
def a1U (n:Nat):List O->Bool
 | []=>true
 | .box cs::l=>match a68 n cs with|true=>a1U n l|false=>false
 | _::l=>a1U n l
def weak (s s':S):Prop:=a5R s.t s'.t/\a3C s.o s'.o/\a91 (j2 s'.o) s'.t=true/\a1U (j2 s'.o) s'.o=true
theorem a92 {n:Nat}:∀ {ks:List Nat} {i k:Nat},b4S n ks=true->ks[i]?=some k->k<n
 | [],i,k,_,hk=>by simp at hk
 | x::ks,i,k,h,hk=>by
  rw[b4S] at h
  split at h
  ·rename_i hx;cases i with
   | zero=>simp at hk;subst hk;simpa [c32] using hx
   | succ i=>exact a92 h (by simpa using hk)
  ·cases h
theorem a40 {n:Nat}:∀ {l:List O} {k:Nat} {cs:List V},a1U n l=true->l[k]?=some (.box cs)->a68 n cs=true
 | [],k,cs,_,h=>by simp at h
 | x::l,k,cs,hl,h=>by
  cases k with
  | zero =>
   simp at h
   subst h;rw[a1U] at hl
   split at hl
   ·assumption
   ·cases hl
  | succ k =>
   refine a40 (l:=l) (k:=k) ?_ (by simpa using h);cases x with
   | box ds =>
    rw[a1U] at hl
    split at hl
    ·exact hl
    ·cases hl
   | row z e r=>exact hl
   | mp kt es=>exact hl
   | kl ks=>exact hl
   | it P=>exact hl
   | ob T vs=>exact hl
   | dead=>exact hl
def a5j (t:Nat):Bool:=match (ty t).elem with|some e=>c8 e|none=>true
def b07 (t:Nat):Bool:=match (ty t).kind with
 | .array=>match (ty t).val with|some e=>c8 e|none=>true
 | _=>true
def b9V (t:Nat):Bool:=match (ty t).kind with|.ptr=>c8 t|.bool=>c8 t|.slice=>c8 t && (ty t).elem.isSome|.struct=>c8 t && (ty t).fty.all c8|_=>true
def a69 (t:Nat):Bool:=match (ty t).key,(ty t).val with
 | some k,some e=>c8 k && c8 e && (ty k).fty.all c8
 | _,_=>false
def a5k (t:Nat):Bool:=match (ty t).elem with
 | some e=>c8 e && (match (ty e).kind with|.int k=>keq k .u8|_=>false)
 | none=>false
def a5l (t u:Nat):Bool:=(a1O (a4t (ty t).kind) || a1O (b0z (ty u).kind) || a5k t) && (a1O (b0z (ty t).kind) || a1O (a4t (ty u).kind) || a5k u)
def U9 (P:Program):Op->Bool
 | .load t _=>c8 t
 | .store t _ _=>c8 t
 | .fieldAddr t _ _=>c8 t
 | .field t _ _=>c8 t && (ty t).fty.all c8
 | .indexAddr t _ _=>(c8 t && a5j t) && b07 t
 | .index t _ _=>c8 t && b07 t
 | .binOp _ t _ _ _=>b9V t
 | .lookup t _ _ _=>c8 t && a69 t
 | .mapUpdate t _ _ _=>c8 t && a69 t
 | .convert t u _=>c8 t && c8 u && a5l t u
 | .build t _=>c8 t && b07 t
 | .buildSlice t n _=>(c8 t && Nat.ble n 16777216) && match (ty t).elem with|some e=>c8 e && Nat.ble (n * (ty e).sz) 16777216|none=>true
 | .slice t _ _ _ _=>c8 t && a5j t
 | .makeSlice t _ _=>c8 t && a5j t
 | .alloc e=>c8 e
 | .box e _=>c8 e
 | .call ⟨.builtin .len,_,⟨[t]⟩⟩=>c8 t
 | .call ⟨.builtin .append,_,⟨[t,u]⟩⟩=>c8 t && a5j t && B8 t u && match (ty t).elem with|some e=>Nat.blt 0 (ty e).sz|none=>true
 | .call ⟨.value (.func f),_,_⟩=>a0U P f
 | .defer _=>false
 | _=>true
end
section
def Xof (g:Nat->Value) (os:List O) (b:Nat):Prop:=∃k o,os[k]?=some o/\o≠.dead/\M9 (g k) b
def pkg:List Value->Value
 | [v]=>v
 | vs=>.tuple vs.toArray
def j3 (f:Nat) (vs:List V) (os:List O) (Q:List V->List O->Prop):Prop:=a0U Tryd.prog f=true/\∀(I:Nat->Nat->Prop) (w:World) (g:Nat->Value) (args:List Value),
 RelI I (Xof g os) ⟨w,g,os.length,[]⟩ I g ⟨vs,os⟩ { tmps:=args.toArray,defers:=[] } w ->
 Calls Tryd.prog f args.toArray w λe w'=>∃us res os2 I' g',e=.returned (pkg us)/\Q res os2/\RelI I (Xof g os) ⟨w,g,os.length,[]⟩ I' g' ⟨res,os2⟩ { tmps:=us.toArray,defers:=[] } w'
section
variable {I0:Nat->Nat->Prop} {X:Nat->Prop} {w0:W0} {I:Nat->Nat->Prop} {g:Nat->Value} {s:S} {a:Act} {w:World}
theorem a6A:∀ {ks:List Nat} {n j:Nat},j<ks.length->ks[j]?=some (upN ks n j)
 | [],n,j,h=>by simp at h
 | k::ks,n,0,_=>rfl
 | k::ks,n,j+1,h=>by rw[upN];simpa using a6A (n:=n) (by simpa using h)
theorem b2g:∀ {ks:List Nat} {n j:Nat},ks.length<=j->upN ks n j=n+(j - ks.length)
 | [],n,j,h=>by rw[upN];simp
 | k::ks,n,0,h=>by simp at h
 | k::ks,n,j+1,h=>by rw[upN,b2g (by simpa using h)];simp
theorem a93 {ks:List Nat} {n:Nat}:∀(l:List Nat) (i:Nat),(upK ks n l)[i]?=(l[i]?).map (upN ks n)
 | [],i=>by simp[upK]
 | j::l,0=>by simp[upK]
 | j::l,i+1=>by simpa [upK] using a93 l i
theorem a94 {ks:List Nat} {n:Nat}:∀l:List Nat,(upK ks n l).length=l.length
 | []=>rfl
 | j::l=>by simp[upK,a94 l]
theorem a3D {g1:Nat->Value} {ks:List Nat} {n m:Nat} (hg:∀j,j<m->g1 j=g (upN ks n j)) {v:Value} {x:V} (h:AtV I w g v (up1 ks n x)) (hl:a2p m x=true):AtV I w g1 v x:=by
 cases x with
 | d x=>exact(by cases h with|d h=>exact .d h)
 | ag cs=>cases hl
 | tu cs=>cases hl
 | em=>cases h;exact .em
 | own j =>
  cases h with
  | own k A n cap h=>exact .own j A n cap ((congrArg gv (hg j (by simpa [a2p,c32] using hl))).trans h)
 | ptr j off =>
  cases h with
  | ptr k off b h=>exact .ptr j off b ((hg j (by simpa [a2p,c32] using hl)).trans h)
 | cl f l =>
  cases h with
  | cl f us ks' hlen h =>
   rw[a2p] at hl;refine .cl f us l (by rw[hlen,a94]) λi u k hu hk=>?_
   have h1:=h i u (upN ks n k) hu (by rw[a93,hk];rfl);have h2:=hg k (a92 hl hk);rw[h2];exact h1
 | el j i sz off =>
  cases h with
  | el k i sz off b n cap h=>exact .el j i sz off b n cap ((hg j (by simpa [a2p,c32] using hl)).trans h)
 | ro cs off=>cases h with|ro b o off us cs hi hc hd=>exact .ro b o off us cs hi hc hd
 | mp j =>
  cases h with
  | mp k b h=>exact .mp j b ((hg j (by simpa [a2p,c32] using hl)).trans h)
 | bs j m' =>
  cases h with
  | bs k n' b cap h hn=>exact .bs j m' b cap ((hg j (by simpa [a2p,c32] using hl)).trans h) hn
 | jk=>exact .jk _
theorem b3u {g1:Nat->Value} {ks:List Nat} {n m:Nat} (hg:∀j,j<m->g1 j=g (upN ks n j)):∀ {cs:List V} {us:List Value},f9 I w g us (upL ks n cs)->a68 m cs=true->f9 I w g1 us cs
 | [],us,h,_=>by rw[upL] at h;rw[h.unnil];exact .nil I w g1
 | c::cs,us,h,hl=>by
  rw[upL] at h;obtain⟨u,us',rfl,h1,h2⟩:=h.uncons;rw[a68] at hl
  split at hl
  ·rename_i hc;exact .cons (a3D hg h1 hc) (b3u hg h2 hl)
  ·cases hl
theorem b6l {g1:Nat->Value} {ks:List Nat} {n m:Nat} (hg:∀j,j<m->g1 j=g (upN ks n j)):∀ {cs:List V} {us:List Value},f9 I w g us (upT ks n cs)->a91 m cs=true->f9 I w g1 us cs
 | [],us,h,_=>by rw[upT] at h;rw[h.unnil];exact .nil I w g1
 | c::cs,us,h,hl=>by
  rw[upT] at h;obtain⟨u,us',rfl,h1,h2⟩:=h.uncons;rw[a91] at hl
  split at hl
  ·rename_i hc;refine .cons ?_ (b6l hg h2 hl);cases c with
   | ag l=>obtain⟨vs,rfl,h3⟩:=AtV.unag h1;exact a00 (b3u hg h3 hc)
   | tu l =>
    cases l with
    | nil =>
     obtain⟨vs,rfl,h3⟩:=AtV.untu h1;rw[h3.unnil];exact a0S (.nil I w g1)
    | cons c l=>cases hc
   | d x=>exact a3D hg h1 hc
   | em=>exact a3D hg h1 hc
   | own k=>exact a3D hg h1 hc
   | ptr k off=>exact a3D hg h1 hc
   | cl f l=>exact a3D hg h1 hc
   | el k i sz off=>exact a3D hg h1 hc
   | ro l off=>exact a3D hg h1 hc
   | mp k=>exact a3D hg h1 hc
   | bs k n=>exact a3D hg h1 hc
   | jk=>exact .jk _
  ·cases hl
theorem b6m {g1:Nat->Value} {ks:List Nat} {n:Nat} (hg:∀j,g1 j≠.nilFunc->g (upN ks n j)=g1 j) {v:Value} {x:V} (h:AtV I w g1 v x):AtV I w g v (up1 ks n x):=by
 cases h with
 | d h=>exact .d h
 | ag=>exact .jk _
 | tu=>exact .jk _
 | em=>exact .em
 | own j A m cap h=>exact .own _ A m cap ((congrArg gv (hg j (by intro e;rw[e] at h;cases h))).trans h)
 | ptr j off b h=>exact .ptr _ off b ((hg j (by rw[h];simp)).trans h)
 | cl f us l hl h =>
  refine .cl f us _ (by rw[a94];exact hl) λi u k hu hk=>?_
  rw[a93] at hk;obtain⟨j,hj,rfl⟩:=c3z.1 hk;obtain⟨h1,b,h2⟩:=h i u j hu hj;have h3:=hg j (by rw[h2];simp);exact⟨h1.trans h3.symm,b,h3.trans h2⟩
 | el j i sz off b m cap h=>exact .el _ i sz off b m cap ((hg j (by rw[h];simp)).trans h)
 | ro b o off us cs hi hc hd=>exact .ro b o off us cs hi hc hd
 | mp j b h=>exact .mp _ b ((hg j (by rw[h];simp)).trans h)
 | bs j m' b cap h hn=>exact .bs _ m' b cap ((hg j (by rw[h];simp)).trans h) hn
 | jk v=>exact .jk v
theorem b6n {g1:Nat->Value} {ks:List Nat} {n:Nat} (hg:∀j,g1 j≠.nilFunc->g (upN ks n j)=g1 j):∀ {cs:List V} {us:List Value},f9 I w g1 us cs->f9 I w g us (upL ks n cs)
 | [],us,h=>by rw[h.unnil];exact .nil I w g
 | c::cs,us,h=>by
  obtain⟨u,us',rfl,h1,h2⟩:=h.uncons;exact .cons (b6m hg h1) (b6n hg h2)
theorem c1c {g1:Nat->Value} {ks:List Nat} {n:Nat} (hg:∀j,g1 j≠.nilFunc->g (upN ks n j)=g1 j) {v:Value} {x:V} (h:AtV I w g1 v x):AtV I w g v (up2 ks n x):=by
 cases x with
 | ag l=>obtain⟨vs,rfl,h3⟩:=AtV.unag h;exact a00 (b6n hg h3)
 | tu l =>
  cases l with
  | nil =>
   obtain⟨vs,rfl,h3⟩:=AtV.untu h;rw[h3.unnil];exact a0S (.nil I w g)
  | cons c l=>exact b6m hg h
 | _=>exact b6m hg h
theorem b95 {g1:Nat->Value} {ks:List Nat} {n:Nat} (hg:∀j,g1 j≠.nilFunc->g (upN ks n j)=g1 j):∀ {cs:List V} {us:List Value},f9 I w g1 us cs->f9 I w g us (upT ks n cs)
 | [],us,h=>by rw[h.unnil];exact .nil I w g
 | c::cs,us,h=>by
  obtain⟨u,us',rfl,h1,h2⟩:=h.uncons;exact .cons (c1c hg h1) (b95 hg h2)
theorem b6o:∀ {vs:List V} {us:List Value},f9 I w g us vs->AtV I w g (pkg us) (a23 vs)
 | [],us,h=>by rw[h.unnil];exact a0S (.nil I w g)
 | [v],us,h=>by
  obtain⟨u,us',rfl,h1,h2⟩:=h.uncons;rw[h2.unnil];exact h1
 | v::v'::vs,us,h=>by
  obtain⟨u,us',rfl,h1,h2⟩:=h.uncons;obtain⟨u',us'',rfl,h3,h4⟩:=h2.uncons;exact a0S h
def a95:List Nat->List V->List V
 | [],t=>t
 | k::ks,t=>a95 ks (w7 k t)
theorem a8s {g2:Nat->Value}:∀(ks:List Nat) (g:Nat->Value) {cs:List V} {us:List Value},(∀j,j∉ks->g2 j=g j)->(∀j,H6 (g j)=true->g2 j=g j)->f9 I w g us cs->f9 I w g2 us (a95 ks cs)
 | [],g,cs,us,hg,hp,h=>by
  have:g2=g:=funext λj=>hg j (by simp)
  subst this;exact h
 | k::ks,g,cs,us,hg,hp,h=>by
  refine a8s ks (upd g k (g2 k)) (λj hj=>?_) (λj hb=>?_) (a25 (k:=k) (λj hj=>r8 hj) (λha=>by rw[d9];exact hp k ha) h)
  ·by_cases e:j=k
   ·subst e;rw[d9]
   ·rw[r8 e];exact hg j (by simp[e,hj])
  ·by_cases e:j=k
   ·subst e;rw[d9]
   ·rw[r8 e] at hb ⊢;exact hp j hb
theorem a5m {g2:Nat->Value}:∀(ks:List Nat) (g:Nat->Value) {cs:List V} {us:List Value},(∀j,j∉ks->g2 j=g j)->(∀j,H6 (g j)=true->g2 j=g j)->f9 I w g us cs->f9 I w g2 us (z6 ks cs)
 | [],g,cs,us,hg,hp,h=>by
  have:g2=g:=funext λj=>hg j (by simp)
  subst this;exact h
 | k::ks,g,cs,us,hg,hp,h=>by
  refine a5m ks (upd g k (g2 k)) (λj hj=>?_) (λj hb=>?_) (a4w (k:=k) (λj hj=>r8 hj) (λha=>by rw[d9];exact hp k ha) h)
  ·by_cases e:j=k
   ·subst e;rw[d9]
   ·rw[r8 e];exact hg j (by simp[e,hj])
  ·by_cases e:j=k
   ·subst e;rw[d9]
   ·rw[r8 e] at hb ⊢;exact hp j hb
def a6B:List Nat->List Nat->List Nat
 | [],l=>l
 | k::ks,l=>a6B ks (k::l)
theorem a3R:∀ {ks l:List Nat} {j:Nat},j∈ks\/j∈l->j∈a6B ks l
 | [],l,j,h=>h.resolve_left (by simp)
 | k::ks,l,j,h=>by
  rw[a6B];refine a3R ?_
  rcases h with h|h
  ·rcases c2C.1 h with rfl|h
   ·exact .inr (c27 ..)
   ·exact .inl h
  ·exact .inr (c26 _ h)
theorem a3S:∀(ks:List Nat) (l:List O) (j:Nat) (o:O),(P4 ks l)[j]?=some o->∃o',l[j]?=some o'/\(o≠.dead->o'≠.dead)/\((∃cs,o'=.box cs/\o=.box (a95 ks cs))\/(∃js,o'=.kl js/\o=.kl (a6B ks js))\/(o=o'/\(∀cs,o≠.box cs)/\∀js,o≠.kl js))
 | [],l,j,o,h=>⟨o,h,λh=>h,by
  cases o with
  | box cs=>exact .inl ⟨cs,rfl,rfl⟩
  | kl js=>exact .inr (.inl ⟨js,rfl,rfl⟩)
  | row z e r=>exact .inr (.inr ⟨rfl,by simp,by simp⟩)
  | mp kt es=>exact .inr (.inr ⟨rfl,by simp,by simp⟩)
  | it P=>exact .inr (.inr ⟨rfl,by simp,by simp⟩)
  | ob T vs=>exact .inr (.inr ⟨rfl,by simp,by simp⟩)
  | dead=>exact .inr (.inr ⟨rfl,by simp,by simp⟩)⟩
 | k::ks,l,j,o,h=>by
  obtain⟨o1,h1,h2,h3⟩:=a3S ks (y8 k l) j o h;obtain⟨o2,h4,h5,h6⟩:=a0I k l j o1 h1;refine⟨o2,h4,λhd=>h5 (h2 hd),?_⟩
  rcases h3 with⟨cs,rfl,rfl⟩|⟨cs,rfl,rfl⟩|⟨rfl,hb,hf⟩
  ·rcases h6 with⟨cs',rfl,e⟩|⟨cs',rfl,e⟩|⟨rfl,hb,_⟩
   ·injection e with e;subst e;exact .inl ⟨cs',rfl,rfl⟩
   ·cases e
   ·exact absurd rfl (hb cs)
  ·rcases h6 with⟨cs',rfl,e⟩|⟨cs',rfl,e⟩|⟨rfl,_,hb⟩
   ·cases e
   ·injection e with e;subst e;exact .inr (.inl ⟨cs',rfl,rfl⟩)
   ·exact absurd rfl (hb cs)
  ·rcases h6 with⟨cs',rfl,e⟩|⟨cs',rfl,e⟩|⟨rfl,_,_⟩
   ·exact absurd e (hb _)
   ·exact absurd e (hf _)
   ·exact .inr (.inr ⟨rfl,hb,hf⟩)
theorem H9:∀(ks:List Nat) (l:List O),(P4 ks l).length=l.length
 | [],l=>rfl
 | k::ks,l=>by rw[P4,H9 ks,Q5]
theorem a41:∀l m:List O,b4P l m=l++m
 | [],m=>rfl
 | x::l,m=>by rw[b4P,a41 l m];rfl
theorem a0V:∀ {ks:List Nat} {os l:List O},ks.Nodup->(∀k∈ks,k<l.length)->ks.length<=os.length->∀ {i k:Nat},ks[i]?=some k->(I7 ks os l)[k]?=os[i]?
 | [],os,l,_,_,_,i,k,h=>by simp at h
 | k0::ks,[],l,_,_,hl,i,k,h=>by simp at hl
 | k0::ks,x::os,l,hn,hk,hl,i,k,h=>by
  rw[I7,x5];obtain⟨hn1,hn2⟩:=c34.1 hn;have hk':∀k∈ks,k<(l.set k0 x).length:=λk hm=>by rw[c2K];exact hk k (c26 _ hm)
  cases i with
  | zero =>
   simp at h
   subst h;rw[backO_out hk' (by simpa using hl) hn1 (by rw[c2K];exact hk _ (c27 ..)),c2S (hk _ (c27 ..))];rfl
  | succ i =>
   rw[a0V hn2 hk' (by simpa using hl) (i:=i) (by simpa using h)]
   simp
where
 backO_out:∀ {ks:List Nat} {os l:List O},(∀k∈ks,k<l.length)->ks.length<=os.length->∀ {k:Nat},k∉ks->k<l.length->(I7 ks os l)[k]?=l[k]?
  | [],os,l,_,_,k,_,hlt=>by
   rw[I7,a41,c2R hlt]
   simp
  | k0::ks,[],l,_,hl,k,_,_=>by simp at hl
  | k0::ks,x::os,l,hk,hl,k,hn,hlt=>by
   rw[I7,x5,backO_out (λk hm=>by rw[c2K];exact hk k (c26 _ hm)) (by simpa using hl) (λhm=>hn (c26 _ hm)) (by rw[c2K];exact hlt),c2L λe=>hn (by rw[<-e];exact c27 ..)]
theorem a3n:∀ {ks:List Nat} {os l:List O},ks.length<=os.length->∀d,(I7 ks os l)[l.length+d]?=os[ks.length+d]?
 | [],os,l,_,d=>by
  rw[I7,a41,c2P (Nat.le_add_right _ _)]
  ·simp
  ·simp
 | k0::ks,[],l,hl,d=>by simp at hl
 | k0::ks,x::os,l,hl,d=>by
  rw[I7,x5];have:=a3n (ks:=ks) (os:=os) (l:=l.set k0 x) (by simpa using hl) d;rw[c2K] at this;rw[this,c2D,c4o]
  simp
theorem a5n:∀ {ks:List Nat} {os l:List O},ks.length<=os.length->(I7 ks os l).length=l.length+(os.length - ks.length)
 | [],os,l,_=>by
  rw[I7,a41]
  ·simp
  ·simp
 | k0::ks,[],l,hl=>by simp at hl
 | k0::ks,x::os,l,hl=>by
  rw[I7,x5,a5n (by simpa using hl),c2K]
  simp
theorem a29 {ks:List Nat} {n:Nat}:∀(l:List O) (i:Nat),(a0B ks n l)[i]?=(l[i]?).map (upO ks n)
 | [],i=>by simp[a0B]
 | j::l,0=>by simp[a0B]
 | j::l,i+1=>by simpa [a0B] using a29 l i
theorem a14 {ks:List Nat} {n:Nat}:∀l:List O,(a0B ks n l).length=l.length
 | []=>rfl
 | j::l=>by simp[a0B,a14 l]
theorem a3o {k:Nat}:∀ {l:List Nat},a8i k l=true↔k∈l
 | []=>by simp[a8i]
 | j::l=>by
  rw[a8i];cases e:B8 j k
  ·show a8i k l=true↔k∈j::l;rw[a3o,c2C];have:=Y0.1 e;exact Iff.intro (λh=>.inr h) λh=>h.resolve_left λe=>this e.symm
  ·simp[w8.1 e]
theorem a0J:∀ {l:List Nat},a22 l=true->l.Nodup
 | [],_=>c4T
 | k::l,h=>by
  rw[a22] at h
  split at h
  ·cases h
  ·rename_i hm;exact c34.2 ⟨λhk=>(by rw[a3o.2 hk] at hm;cases hm),a0J h⟩
theorem a5o:∀ {l:List Nat},l.Nodup->∀ {i j k:Nat},l[i]?=some k->l[j]?=some k->i=j
 | [],_,i,j,k,h,_=>by simp at h
 | x::l,hn,i,j,k,hi,hj=>by
  obtain⟨h1,h2⟩:=c34.1 hn;cases i with
  | zero =>
   cases j with
   | zero=>rfl
   | succ j =>
    simp at hi hj
    subst hi;exact absurd (c2F hj) h1
  | succ i =>
   cases j with
   | zero =>
    simp at hi hj
    subst hj;exact absurd (c2F hi) h1
   | succ j=>exact congrArg (·+1) (a5o h2 (k:=k) (by simpa using hi) (by simpa using hj))
theorem a6C:∀ {ks:List Nat} {l:List O} {i k:Nat},ks[i]?=some k->(pick ks l)[i]?=some (m5 l k)
 | [],_,_,_,h=>by simp at h
 | k0::ks,l,0,k,h=>by simp at h;subst h;rfl
 | k0::ks,l,i+1,k,h=>by simpa [pick] using a6C (l:=l) (i:=i) (by simpa using h)
theorem Y5:∀ {l:List O},b6d l=true->∀o∈l,o≠.dead/\∀js,o≠.kl js
 | [],_,o,h=>by simp at h
 | x::l,h,o,hm=>by
  cases x with
  | dead=>cases h
  | box cs =>
   rcases c2C.1 hm with rfl|hm
   ·simp
   ·exact Y5 (l:=l) h o hm
  | row z e r =>
   rcases c2C.1 hm with rfl|hm
   ·simp
   ·exact Y5 (l:=l) h o hm
  | mp kt es =>
   rcases c2C.1 hm with rfl|hm
   ·simp
   ·exact Y5 (l:=l) h o hm
  | it P =>
   rcases c2C.1 hm with rfl|hm
   ·simp
   ·exact Y5 (l:=l) h o hm
  | ob T vs =>
   rcases c2C.1 hm with rfl|hm
   ·simp
   ·exact Y5 (l:=l) h o hm
  | kl js=>cases h
structure SubOk (ks:List Nat) (vs':List V) (os':List O) (vs:List V) (s:S):Prop where
 nd:a22 ks=true
 len:j2 os'=m9 ks
 args:upT ks (j2 s.o) vs'=vs
 objs:pick ks s.o=a0B ks (j2 s.o) os'
 al:b6d os'=true
 low:a91 (m9 ks) vs'=true
 lowo:a1U (m9 ks) os'=true
theorem SubOk.nokl {ks:List Nat} {vs' vs:List V} {os':List O} {s:S} (h:SubOk ks vs' os' vs s) {i:Nat} {o:O} (ho:os'[i]?=some o):∀js,o≠.kl js:=(Y5 h.al o (c2F ho)).2
theorem SubOk.obj {ks:List Nat} {vs' vs:List V} {os':List O} (h:SubOk ks vs' os' vs s) {i k:Nat} (hi:ks[i]?=some k):∃o,os'[i]?=some o/\(o≠.dead/\∀js,o≠.kl js)/\s.o[k]?=some (upO ks s.o.length o):=by
 have hl:=h.len;rw[m7,x7] at hl;have hlt:i<os'.length:=by rw[hl];exact(c25.1 hi).1
 have h1:=a6C (l:=s.o) hi;rw[h.objs,a29,c28 hlt] at h1;have hd:=Y5 h.al os'[i] (List.getElem_mem hlt);refine⟨os'[i],c28 hlt,hd,?_⟩;have h2:=Option.some.inj h1;rw[<-m7,h2];refine j1 rfl ?_;rw[<-h2];generalize os'[i]=o at hd;cases o <;> simp_all [upO]
def sub (ks:List Nat) (g:Nat->Value) (i:Nat):Value:=match ks[i]? with|some k=>g k|none=>.nilFunc
theorem b6p (h:RelI I0 X w0 I g s a w) {ks:List Nat} {vs' vs:List V} {os':List O} {args:List Value} (hs:SubOk ks vs' os' vs s) (hv:f9 I w g args vs):RelI I (Xof (sub ks g) os') ⟨w,sub ks g,os'.length,[]⟩ I (sub ks g) ⟨vs',os'⟩ { tmps:=args.toArray,defers:=[] } w:=by
 have hl:=hs.len;rw[m7,x7] at hl
 have hg:∀j,j<m9 ks->sub ks g j=g (upN ks (j2 s.o) j):=λj hj=>by
  rw[x7] at hj;unfold sub;rw[a6A hj]
 have hgs:∀ {i k:Nat},ks[i]?=some k->sub ks g i=g k:=λ{i k} h=>by unfold sub;rw[h]
 have hX:∀ {i:Nat} {o:O},os'[i]?=some o->o≠.dead->∀b,M9 (sub ks g i) b->a12 (Xof (sub ks g) os') ⟨w,sub ks g,os'.length,[]⟩ b:=λ{i o} ho hd b hb=>.inr ⟨i,o,ho,hd,hb⟩
 refine⟨λ_ _ h=>h,λb k hb=>⟨(h.lt b k hb).1,λ_=>.inl hb⟩,Fr.refl _ _,n7.refl _ _,c2A _,λ_ _ _=>rfl,λi o ho=>?_,λi j b hi hj hbi hbj=>?_,λi hi=>?_,?_,rfl,?_⟩
 ·have hlt:i<ks.length:=by rw[<-hl];exact(c25.1 ho).1
  have hi:ks[i]?=some ks[i]:=c28 hlt;obtain⟨o',ho',⟨hd,_⟩,hso⟩:=hs.obj hi;have ho:os'[i]?=some o:=ho;rw[ho] at ho';injection ho' with ho'
  subst ho';have hob:=h.obj _ _ hso;have hgi:=hgs hi;cases o with
  | dead=>exact True.intro
  | box cs =>
   obtain⟨b,us,t,h1,h2,h3,h4,h5,h6⟩:=hob;refine⟨b,us,t,by rw[hgi];exact h1,h2,b3u hg (by rw[m7];exact h3) (a40 hs.lowo ho),h4,h5,hX ho hd b (by rw[hgi,h1];rfl)⟩
  | row z e rows =>
   obtain⟨us,h1,h2,h3,h4⟩:=hob;refine⟨us,by rw[hgi];exact h1,h2,h3,λb hb=>?_⟩;rw[hgi] at hb;exact⟨(h4 b hb).1,(h4 b hb).2.1,hX ho hd b (by rw[hgi];exact(a0T h1).2 hb)⟩
  | mp kt es =>
   obtain⟨b,l,c,h1,h2,h3,h4,h5⟩:=hob;exact⟨b,l,c,by rw[hgi];exact h1,h2,h3,h4,hX ho hd b (by rw[hgi,h1];rfl)⟩
  | ob T vs =>
   obtain⟨b,h1,h2,h4,h5⟩:=hob;exact⟨b,by rw[hgi];exact h1,h2,h4,hX ho hd b (by rw[hgi,h1];rfl)⟩
  | it P =>
   obtain⟨A,n,cap,F,h1,h2,h3,h4⟩:=hob;exact⟨A,n,cap,F,by rw[hgi];exact h1,h2,h3,λb hb=>⟨(h4 b hb).1,(h4 b hb).2.1,hX ho hd b (by rw[hgi,h1,z8];exact hb)⟩⟩
  | kl js=>exact absurd rfl (hs.nokl ho js)
 ·obtain⟨oi,hoi,hdi⟩:=hi;obtain⟨oj,hoj,hdj⟩:=hj;have hli:i<ks.length:=by rw[<-hl];exact(c25.1 hoi).1
  have hlj:j<ks.length:=by rw[<-hl];exact(c25.1 hoj).1
  have hi:ks[i]?=some ks[i]:=c28 hli;have hj:ks[j]?=some ks[j]:=c28 hlj
  have liv:∀ {i k:Nat},ks[i]?=some k->A1 s k:=λ{i k} h=>by
   obtain⟨o,_,hd,hso⟩:=hs.obj h;exact⟨_,hso,by cases o <;> simp_all [upO]⟩
  rw[hgs hi] at hbi;rw[hgs hj] at hbj;have:=h.dis _ _ b (liv hi) (liv hj) hbi hbj;exact a5o (a0J hs.nd) hi (by rw[this];exact hj)
 ·have hi:os'.length<=i:=hi;unfold sub;rw[c3p (by omega)]
 ·show f9 I w (sub ks g) args vs';exact b6l hg (by rw[hs.args];exact hv) hs.low
 ·refine h.tabs λb ⟨i,o,ho,hd,hb⟩=>?_
  have hlt:i<ks.length:=by rw[<-hl];exact(c25.1 ho).1
  have hi:ks[i]?=some ks[i]:=c28 hlt;obtain⟨o',ho',⟨hd',_⟩,hso⟩:=hs.obj hi;rw[hgs hi] at hb;exact((h.obj _ _ hso).blk (by cases o' <;> simp_all [upO]) b hb).2
def b4T:List Nat->Nat->Option Nat
 | [],_=>none
 | j::l,k=>if j=k then some 0 else (b4T l k).map (·+1)
theorem b3v:∀ {l:List Nat},l.Nodup->∀ {i k:Nat},l[i]?=some k->b4T l k=some i
 | [],_,i,k,h=>by simp at h
 | x::l,hn,i,k,h=>by
  obtain⟨h1,h2⟩:=c34.1 hn;rw[b4T];cases i with
  | zero=>simp at h;rw[c2E h]
  | succ i =>
   have h3:l[i]?=some k:=by simpa using h
   rw[c2H λe=>h1 (by rw[e];exact c2F h3),b3v h2 h3];rfl
theorem a6D:∀ {l:List Nat} {k:Nat},k∉l->b4T l k=none
 | [],_,_=>rfl
 | x::l,k,h=>by
  rw[b4T,c2H λe=>h (by rw[e];exact c27 ..),a6D λhm=>h (c26 _ hm)];rfl
theorem a42 {ks:List Nat} {n:Nat} {o:O} (h:upO ks n o≠.dead):o≠.dead:=by cases o <;> simp_all [upO]
theorem a43 {ks:List Nat} {n:Nat} {o:O} (h:o≠.dead) (hk:∀js,o≠.kl js):upO ks n o≠.dead:=by cases o <;> simp_all [upO]
theorem called (h:RelI I0 X w0 I g s a w) {ks:List Nat} {vs' vs res:List V} {os' os2:List O} {us:List Value} {w':World} {I':Nat->Nat->Prop} {g1:Nat->Value} (hs:SubOk ks vs' os' vs s)
    (h1:RelI I (Xof (sub ks g) os') ⟨w,sub ks g,os'.length,[]⟩ I' g1 ⟨res,os2⟩ { tmps:=us.toArray,defers:=[] } w'):∃g2,RelI I0 X w0 I' g2 (a1T ks os2 s) a w'/\AtV I' w' g2 (pkg us) (a23 (upT ks (j2 s.o) res))/\((∀i k,ks[i]?=some k->g1 i=g k)->RelI I0 X w0 I' g2 ⟨s.t,I7 ks (a0B ks (j2 s.o) os2) s.o⟩ a w'):=by
  have hm:=hs.len;rw[m7,x7] at hm;have hnd:=a0J hs.nd;obtain⟨n,hn⟩:∃n,n=s.o.length:=⟨_,rfl⟩
  have hklt:∀k∈ks,k<n:=λk hk=>by
    obtain⟨i,hi⟩:=c2Z.1 hk;obtain⟨o,_,_,ho⟩:=hs.obj hi;rw[hn];exact(c25.1 ho).1
  have hm2:ks.length<=os2.length:=by rw[<-hm];exact h1.lo
  obtain⟨g2,hg2⟩:∃g2:Nat->Value,g2=λk=>match b4T ks k with|some i=>g1 i|none=>if k<n then g k else g1 (ks.length+(k - n)):=⟨_,rfl⟩
  have f_in:∀ {i k:Nat},ks[i]?=some k->g2 k=g1 i:=λ{i k} hi=>by rw[hg2];simp only;rw[b3v hnd hi]
  have f_out:∀k,k∉ks->k<n->g2 k=g k:=λk hk hlt=>by rw[hg2];simp only;rw[a6D hk];simp only;rw[c2E hlt]
  have f_new:∀d,g2 (n+d)=g1 (ks.length+d):=λd=>by
    rw[hg2];simp only;rw[a6D λhk=>by have:=hklt _ hk;omega];simp only;rw[c2H (by omega)]
    congr 1
    omega
  have f1:∀j,g2 (upN ks n j)=g1 j:=λj=>by
    rcases c3o j ks.length with hj|hj
    · exact f_in (a6A hj)
    · rw[b2g hj,f_new]
      congr 1
      omega
  have gsub:∀ {i k:Nat},ks[i]?=some k->sub ks g i=g k:=λ{i k} h=>by unfold sub;rw[h]
  have f_ref:∀j,H6 (g j)=true->g2 j=g j:=λj hr=>by
    by_cases hj:j∈ks
    · obtain⟨i,hi⟩:=c2Z.1 hj
      have hlt:=(c25.1 hi).1;rw[f_in hi,h1.st i (by show i<os'.length;rw[hm];exact hlt) (by show H6 (sub ks g i)=true;rw[gsub hi];exact hr)];exact gsub hi
    · refine f_out j hj ?_
      rcases c3o j n with hlt|hge
      · exact hlt
      · rw[h.out j (by omega)] at hr;cases hr
  have xof:∀b,Xof (sub ks g) os' b->∃k,k∈ks/\A1 s k/\M9 (g k) b/\b<w.heap.size/\a12 X w0 b:=λb ⟨i,o,ho,hd,hb⟩=>by
    have hlt:i<ks.length:=by rw[<-hm];exact(c25.1 ho).1
    have hi:ks[i]?=some ks[i]:=c28 hlt;obtain⟨o',ho',hd',hso⟩:=hs.obj hi;rw[gsub hi] at hb;have hdd:upO ks s.o.length o'≠.dead:=a43 hd'.1 hd'.2;have:=(h.obj _ _ hso).blk hdd b hb;exact⟨ks[i],List.getElem_mem hlt,⟨_,hso,hdd⟩,hb,this.1,this.2⟩
  have mine:∀b,a12 (Xof (sub ks g) os') ⟨w,sub ks g,os'.length,[]⟩ b->a12 X w0 b:=λb hb=>by
    rcases hb with hb|hb
    · exact .inl (c3E h.fr.size hb)
    · obtain⟨k,_,_,_,_,hM⟩:=xof b hb
      exact hM
  have hkp:n7 I w w':=h1.kp;have hII:∀b k,I b k->I' b k:=h1.im
  have hlen:(a1T ks os2 s).o.length=n+(os2.length - ks.length):=by
    show (I7 ks (a0B ks (j2 s.o) os2) (P4 ks s.o)).length=_;rw[a5n (by rw[a14];exact hm2),H9,a14,hn]
  have each:∀k o,(a1T ks os2 s).o[k]?=some o->(∃i o1,os2[i]?=some o1/\o=upO ks n o1/\g2 k=g1 i/\k=upN ks n i)\/(k∉ks/\k<n/\g2 k=g k/\∃o',s.o[k]?=some o'/\(o≠.dead->o'≠.dead)/\((∃cs,o'=.box cs/\o=.box (a95 ks cs))\/(∃js,o'=.kl js/\o=.kl (a6B ks js))\/(o=o'/\(∀cs,o≠.box cs)/\∀js,o≠.kl js))):=λk o hk=>by
    have hk:(I7 ks (a0B ks (j2 s.o) os2) (P4 ks s.o))[k]?=some o:=hk;rw[m7,<-hn] at hk;have hkl:∀k∈ks,k<(P4 ks s.o).length:=λk hk=>by rw[H9,<-hn];exact hklt k hk
    have hol:ks.length<=(a0B ks n os2).length:=by rw[a14];exact hm2
    by_cases hin:k∈ks
    · obtain⟨i,hi⟩:=c2Z.1 hin
      rw[a0V hnd hkl hol hi,a29] at hk;obtain⟨o1,ho1,rfl⟩:=c3z.1 hk;have hlt:=(c25.1 hi).1;have h3:=a6A (n:=n) hlt;rw[hi] at h3;exact .inl ⟨i,o1,ho1,rfl,f_in hi,Option.some.inj h3⟩
    · rcases c3o k n with hlt|hge
      · rw[a0V.backO_out hkl hol hin (by rw[H9,<-hn];exact hlt)] at hk
        exact .inr ⟨hin,hlt,f_out k hin hlt,a3S ks s.o k o hk⟩
      · obtain⟨d,rfl⟩:∃d,k=n+d:=⟨k - n,by omega⟩
        have hnl:(P4 ks s.o).length+d=n+d:=by rw[H9,<-hn]
        rw[<-hnl,a3n hol d,a29] at hk;obtain⟨o1,ho1,rfl⟩:=c3z.1 hk;refine .inl ⟨ks.length+d,o1,ho1,rfl,f_new d,?_⟩;rw[b2g (by omega)];omega
  have hgm:∀k,(if k<n then g2 k else g k)≠.nilFunc->g2 k=(if k<n then g2 k else g k):=λk hk=>by
    by_cases hlt:k<n
    · rw[c2E hlt]
    · rw[c2H hlt] at hk
      exact absurd (h.out k (by omega)) hk
  have hk1:∀j,j∉ks->(if j<n then g2 j else g j)=g j:=λj hj=>by
    by_cases hlt:j<n
    · rw[c2E hlt];exact f_out j hj hlt
    · rw[c2H hlt]
  have hk2:∀j,H6 (g j)=true->(if j<n then g2 j else g j)=g j:=λj hb=>by
    by_cases hlt:j<n
    · rw[c2E hlt];exact f_ref j hb
    · rw[c2H hlt]
  have f1':∀j,g1 j≠.nilFunc->g2 (upN ks n j)=g1 j:=λj _=>f1 j
  have hR:RelI I0 X w0 I' g2 (a1T ks os2 s) a w':=by
   refine⟨λb k hb=>hII _ _ (h.im b k hb),λb k hb=>⟨(h1.lt b k hb).1,λhlt=>?_⟩,⟨h1.fr.os.trans h.fr.os,h1.fr.tape.trans h.fr.tape,h1.fr.output.trans h.fr.output,c3E h.fr.size h1.fr.size,λb hb hX=>?_⟩,h.kp.trans λb k hb i hi=>hkp b k (h.im b k hb) i hi,?_,λk hk hr=>?_,λk o hk=>?_,λj k b hj hk hbj hbk=>?_,λk hk=>?_,?_,h.dfr⟩
   · rcases (h1.lt b k hb).2 (c3y hlt h.fr.size) with h3|h3
     · exact(h.lt b k h3).2 hlt
     · obtain⟨_,_,_,_,_,hM⟩:=xof b h3
       rcases hM with hM|hM
       · omega
       · exact .inr hM
   · refine(h1.fr.block b (c3y hb h.fr.size) λhx=>?_).trans (h.fr.block b hb hX)
     obtain⟨_,_,_,_,_,hM⟩:=xof b hx
     rcases hM with hM|hM
     · omega
     · exact hX hM
   · rw[hlen]
     have:=h.lo;omega
   · have e:=h.st k hk hr
     rw[<-e] at hr ⊢;exact f_ref k hr
   · rcases each k o hk with⟨i,o1,ho1,rfl,e,_⟩|⟨hin,hlt,e,o',ho',hdd,hsh⟩
     · have hob:=h1.obj i o1 ho1
       cases o1 with
       | dead=>exact True.intro
       | box cs =>
         obtain⟨b,us,t,a1,a2,a3,a4,a5,a6⟩:=hob;exact⟨b,us,t,e.trans a1,a2,b6n f1' a3,a4,a5,mine b a6⟩
       | row z e2 rows =>
         obtain⟨us,a1,a2,a3,a4⟩:=hob;exact⟨us,by rw[e];exact a1,a2,a3,λb hb=>by rw[e] at hb;exact⟨(a4 b hb).1,(a4 b hb).2.1,mine b (a4 b hb).2.2⟩⟩
       | mp kt es =>
         obtain⟨b,l,c,a1,a2,a3,a4,a5⟩:=hob;exact⟨b,l,c,e.trans a1,a2,a3,a4,mine b a5⟩
       | ob T vs =>
         obtain⟨b,a1,a2,a4,a5⟩:=hob;exact⟨b,e.trans a1,a2,a4,mine b a5⟩
       | it P =>
         obtain⟨A,n',cap,F,a1,a2,a3,a4⟩:=hob;exact⟨A,n',cap,F,e.trans a1,a2,a3,λb hb=>⟨(a4 b hb).1,(a4 b hb).2.1,mine b (a4 b hb).2.2⟩⟩
       | kl js=>exact True.intro
     · by_cases hd:o=.dead
       · subst hd;exact True.intro
       have hd':=hdd hd;have hob:=h.obj k o' ho'
       have nox:∀b,M9 (g k) b->¬Xof (sub ks g) os' b:=λb hb hx=>by
         obtain⟨k',hk',hl',hb',_⟩:=xof b hx;exact hin (by rw[h.dis k k' b ⟨_,ho',hd'⟩ hl' hb hb'];exact hk')
       have hkeep:W7 X w0 I' w' g k o':=by
         refine hob.keep hII hkp (λb hb=>h1.fr.block b (hob.blk hd' b hb).1 (nox b hb)) λb hb k' hk'=>?_
         rcases (h1.lt b k' hk').2 (hob.blk hd' b hb).1 with h3|h3
         · exact h3
         · exact absurd h3 (nox b hb)
       rcases hsh with⟨cs,rfl,rfl⟩|⟨cs,rfl,rfl⟩|⟨rfl,hnb,hnf⟩
       · obtain⟨b,us,t,a1,a2,a3,a4⟩:=hkeep
         exact⟨b,us,t,e.trans a1,a2,(a8s ks g hk1 hk2 a3).more hgm,a4⟩
       · obtain⟨us,a1,a2,a3⟩:=hkeep
         refine⟨us,e.trans a1,a2,λj u hu=>?_⟩
         by_cases hjk:j∈ks
         · exact .inr (.inr (a3R (.inl hjk)))
         · rcases a3 j u hu with a4|a4|a4
           · exact .inl a4
           · have:=(c2I.1 hu).1
             exact .inr (.inl ((f_out j hjk (by omega)).trans a4))
           · exact .inr (.inr (a3R (.inr a4)))
       · cases o with
         | dead=>exact True.intro
         | box cs=>exact absurd rfl (hnb cs)
         | kl js=>exact absurd rfl (hnf js)
         | mp kt es =>
           obtain⟨b,l,c,a1,a2⟩:=hkeep;exact⟨b,l,c,e.trans a1,a2⟩
         | ob T vs =>
           obtain⟨b,a1,a2⟩:=hkeep;exact⟨b,e.trans a1,a2⟩
         | it P =>
           obtain⟨A,n',cap,F,a1,a2⟩:=hkeep;exact⟨A,n',cap,F,e.trans a1,a2⟩
         | row z e2 rows =>
           obtain⟨us,a1,a2,a3,a4⟩:=hkeep;exact⟨us,by rw[e];exact a1,a2,a3,by rw[e];exact a4⟩
   · obtain⟨oj,hoj,hdj⟩:=hj
     obtain⟨ok,hok,hdk⟩:=hk
     have cross:∀ {i k:Nat} {o1:O},os2[i]?=some o1->o1≠.dead->M9 (g1 i) b->k∉ks->A1 s k->¬M9 (g k) b:=λ{i k o1} ho1 hd1 hb1 hin hl hb=>by
       rcases ((h1.obj i o1 ho1).blk hd1 b hb1).2 with h3|h3
       · have h3:w.heap.size<=b:=h3
         have:=h.blk_lt hl hb;omega
       · obtain⟨k',hk',hl',hb',_⟩:=xof b h3
         exact hin (by rw[h.dis k k' b hl hl' hb hb'];exact hk')
     rcases each j oj hoj with⟨i,o1,ho1,rfl,e,eu⟩|⟨hin,hlt,e,o',ho',hdd,_⟩ <;> rcases each k ok hok with⟨i',o1',ho1',rfl,e',eu'⟩|⟨hin',hlt',e',o'',ho'',hdd',_⟩
     · rw[e] at hbj
       rw[e'] at hbk;rw[eu,eu',h1.dis i i' b ⟨_,ho1,a42 hdj⟩ ⟨_,ho1',a42 hdk⟩ hbj hbk]
     · rw[e] at hbj
       rw[e'] at hbk;exact absurd hbk (cross ho1 (a42 hdj) hbj hin' ⟨_,ho'',hdd' hdk⟩)
     · rw[e] at hbj
       rw[e'] at hbk;exact absurd hbj (cross ho1' (a42 hdk) hbk hin ⟨_,ho',hdd hdj⟩)
     · rw[e] at hbj
       rw[e'] at hbk;exact h.dis j k b ⟨_,ho',hdd hdj⟩ ⟨_,ho'',hdd' hdk⟩ hbj hbk
   · rw[hlen] at hk
     obtain⟨d,rfl⟩:∃d,k=n+d:=⟨k - n,by omega⟩;rw[f_new];exact h1.out _ (by show os2.length<=_;omega)
   · exact((a5m ks g hk1 hk2 h.tmp).more hgm).mono hII hkp

  have hpk:AtV I' w' g2 (pkg us) (a23 (upT ks (j2 s.o) res)):=by
    have h3:f9 I' w' g1 us res:=h1.tmp;rw[m7,<-hn];exact b6o (b95 f1' h3)
  refine⟨g2,hR,hpk,λhstay=>?_⟩
  have hgg:∀k,g k≠.nilFunc->g2 k=g k:=λk hk=>by
    by_cases hin:k∈ks
    · obtain⟨i,hi⟩:=c2Z.1 hin
      rw[f_in hi];exact hstay i k hi
    · rcases c3o k n with hlt|hge
      · exact f_out k hin hlt
      · exact absurd (h.out k (by omega)) hk
  have hol:ks.length<=(a0B ks n os2).length:=by rw[a14];exact hm2
  have hkl1:∀k∈ks,k<(P4 ks s.o).length:=λk hk=>by rw[H9,<-hn];exact hklt k hk
  have hkl2:∀k∈ks,k<s.o.length:=λk hk=>by rw[<-hn];exact hklt k hk
  have hl1:(I7 ks (a0B ks n os2) s.o).length=(a1T ks os2 s).o.length:=by
    rw[hlen,a5n hol,a14,<-hn]
  have hbk:(a1T ks os2 s).o=I7 ks (a0B ks n os2) (P4 ks s.o):=by
    show I7 ks (a0B ks (j2 s.o) os2) (P4 ks s.o)=_;rw[m7,<-hn]
  have two:∀k o,(I7 ks (a0B ks n os2) s.o)[k]?=some o->(a1T ks os2 s).o[k]?=some o\/(k∉ks/\k<n/\s.o[k]?=some o):=λk o hk=>by
    rw[hbk]
    by_cases hin:k∈ks
    · obtain⟨i,hi⟩:=c2Z.1 hin
      rw[a0V hnd hkl2 hol hi] at hk;exact .inl (by rw[a0V hnd hkl1 hol hi];exact hk)
    · rcases c3o k n with hlt|hge
      · rw[a0V.backO_out hkl2 hol hin (by rw[<-hn];exact hlt)] at hk
        exact .inr ⟨hin,hlt,hk⟩
      · obtain⟨d,rfl⟩:∃d,k=n+d:=⟨k - n,by omega⟩
        have e1:s.o.length+d=n+d:=by rw[<-hn]
        have e2:(P4 ks s.o).length+d=n+d:=by rw[H9,<-hn]
        rw[<-e1,a3n hol d] at hk;exact .inl (by rw[<-e2,a3n hol d];exact hk)
  have lv:∀k,A1 ⟨s.t,I7 ks (a0B ks n os2) s.o⟩ k->A1 (a1T ks os2 s) k:=λk ⟨o,ho,hd⟩=>by
    rcases two k o ho with h3|⟨hin,hlt,hso⟩
    · exact⟨o,h3,hd⟩
    · have hex:∃o2,(P4 ks s.o)[k]?=some o2:=⟨_,c28 (by rw[H9,<-hn];exact hlt)⟩
      obtain⟨o2,ho2⟩:=hex;obtain⟨o3,h4,h5,h6⟩:=a3S ks s.o k o2 ho2;rw[hso] at h4;injection h4 with h4;subst h4;refine⟨o2,by rw[hbk,a0V.backO_out hkl1 hol hin (by rw[H9,<-hn];exact hlt)];exact ho2,?_⟩
      rcases h6 with⟨cs,rfl,rfl⟩|⟨cs,rfl,rfl⟩|⟨rfl,_,_⟩
      · simp
      · simp
      · exact hd
  rw[m7,<-hn];refine⟨hR.im,hR.lt,hR.fr,hR.kp,by show w0.n<=(I7 ks (a0B ks n os2) s.o).length;rw[hl1];exact hR.lo,hR.st,λk o hk=>?_,λj k b hj hk=>hR.dis j k b (lv j hj) (lv k hk),λk hk=>hR.out k (by rw[<-hl1];exact hk),(h.tmp.more hgg).mono hII hkp,h.dfr⟩
  rcases two k o hk with h3|⟨hin,hlt,hso⟩
  · exact hR.obj k o h3
  · by_cases hd:o=.dead
    · subst hd;exact True.intro
    have hob:=h.obj k o hso
    have nox:∀b,M9 (g k) b->¬Xof (sub ks g) os' b:=λb hb hx=>by
      obtain⟨k',hk',hl',hb',_⟩:=xof b hx;exact hin (by rw[h.dis k k' b ⟨_,hso,hd⟩ hl' hb hb'];exact hk')
    have hkeep:W7 X w0 I' w' g k o:=by
      refine hob.keep hII hkp (λb hb=>h1.fr.block b (hob.blk hd b hb).1 (nox b hb)) λb hb k' hk'=>?_
      rcases (h1.lt b k' hk').2 (hob.blk hd b hb).1 with h3|h3
      · exact h3
      · exact absurd h3 (nox b hb)
    exact hkeep.more hgg
end
def b8u:List O->Bool
 | []=>true
 | .kl _::_=>false
 | _::l=>b8u l
theorem a44:∀ {l:List O},b8u l=true->∀ {i:Nat} {o:O},l[i]?=some o->∀js,o≠.kl js
 | [],_,i,o,h=>by simp at h
 | x::l,hl,i,o,h=>by
  have hl':b8u l=true/\∀js,x≠.kl js:=by cases x <;> first|cases hl|exact⟨hl,by simp⟩
  cases i with
  | zero=>simp at h;subst h;exact hl'.2
  | succ i=>exact a44 hl'.1 (by simpa using h)
structure KeepOk (n:Nat) (ks:List Nat) (res':List V) (os':List O) (res:List V) (s:S):Prop where
 nd:a22 ks=true
 len:j2 os'=m9 ks
 head:b3s 0 n ks=true
 args:upT ks (j2 s.o) res'=res
 objs:pick ks s.o=a0B ks (j2 s.o) os'
 low:a91 (m9 ks) res'=true
 lowo:a1U (m9 ks) os'=true
 nk:b8u os'=true
theorem b08:∀ {n j:Nat} {ks:List Nat},b3s j n ks=true->n<=ks.length/\∀i,i<n->ks[i]?=some (j+i)
 | 0,j,ks,_=>⟨c3d _,λi hi=>absurd hi (c4O _)⟩
 | n+1,j,[],h=>by cases h
 | n+1,j,k::ks,h=>by
  rw[b3s] at h
  split at h
  ·rename_i e;have e:=w8.1 e;subst e;obtain⟨h1,h2⟩:=b08 h;refine⟨by simp;exact h1,λi hi=>?_⟩;cases i with
   | zero=>simp
   | succ i =>
    have:=h2 i (by omega);simp only[c47];rw[this]
    congr 1
    omega
  ·cases h
section
variable {I0:Nat->Nat->Prop} {X:Nat->Prop} {w0:W0} {I:Nat->Nat->Prop} {g:Nat->Value} {s:S} {a:Act} {w:World}
theorem b3w (h:RelI I0 X w0 I g s a w) (hd0:w0.d=[]) {ks:List Nat} {res' res:List V} {os':List O} {us:List Value} (hs:KeepOk w0.n ks res' os' res s) (hv:f9 I w g us res):RelI I0 X w0 I (sub ks g) ⟨res',os'⟩ { tmps:=us.toArray,defers:=[] } w:=by
 have hl:=hs.len;rw[m7,x7] at hl;obtain⟨hn1,hn2⟩:=b08 hs.head
 have hg:∀j,j<m9 ks->sub ks g j=g (upN ks (j2 s.o) j):=λj hj=>by
  rw[x7] at hj;unfold sub;rw[a6A hj]
 have hgs:∀ {i k:Nat},ks[i]?=some k->sub ks g i=g k:=λ{i k} h=>by unfold sub;rw[h]
 have hobj:∀ {i:Nat} {o:O},os'[i]?=some o->o≠.dead->∃k,ks[i]?=some k/\s.o[k]?=some (upO ks s.o.length o):=λ{i o} ho hd=>by
  have hlt:i<ks.length:=by rw[<-hl];exact(c25.1 ho).1
  have hi:ks[i]?=some ks[i]:=c28 hlt;refine⟨_,hi,?_⟩;have h1:=a6C (l:=s.o) hi;rw[hs.objs,a29,ho] at h1;have h2:=Option.some.inj h1;rw[<-m7,h2];refine j1 rfl ?_;rw[<-h2];exact a43 hd (a44 hs.nk ho)
 refine⟨h.im,h.lt,h.fr,h.kp,by show w0.n<=os'.length;omega,λk hk hr=>?_,λi o ho=>?_,λi j b hi hj hbi hbj=>?_,λi hi=>?_,?_,⟨hd0.symm,h.dfr.2⟩⟩
 ·have:=hn2 k hk;rw[c3v] at this;rw[hgs this];exact h.st k hk hr
 ·have ho:os'[i]?=some o:=ho
  by_cases hd:o=.dead
  ·subst hd;exact True.intro
  obtain⟨k,hi,hso⟩:=hobj ho hd;have hob:=h.obj _ _ hso;have hgi:=hgs hi;cases o with
  | dead=>exact True.intro
  | box cs =>
   obtain⟨b,us,t,h1,h2,h3,h4,h5,h6⟩:=hob;exact⟨b,us,t,by rw[hgi];exact h1,h2,b3u hg (by rw[m7];exact h3) (a40 hs.lowo ho),h4,h5,h6⟩
  | row z e rows =>
   obtain⟨us,h1,h2,h3,h4⟩:=hob;exact⟨us,by rw[hgi];exact h1,h2,h3,λb hb=>by rw[hgi] at hb;exact h4 b hb⟩
  | mp kt es =>
   obtain⟨b,l,c,h1,h2⟩:=hob;exact⟨b,l,c,by rw[hgi];exact h1,h2⟩
  | ob T vs =>
   obtain⟨b,h1,h2⟩:=hob;exact⟨b,by rw[hgi];exact h1,h2⟩
  | it P =>
   obtain⟨A,n,cap,F,h1,h2⟩:=hob;exact⟨A,n,cap,F,by rw[hgi];exact h1,h2⟩
  | kl js=>exact absurd rfl (a44 hs.nk ho js)
 ·obtain⟨oi,hoi,hdi⟩:=hi;obtain⟨oj,hoj,hdj⟩:=hj;obtain⟨ki,hi,hsi⟩:=hobj hoi hdi;obtain⟨kj,hj,hsj⟩:=hobj hoj hdj;rw[hgs hi] at hbi;rw[hgs hj] at hbj;have:=h.dis _ _ b ⟨_,hsi,a43 hdi (a44 hs.nk hoi)⟩ ⟨_,hsj,a43 hdj (a44 hs.nk hoj)⟩ hbi hbj;exact a5o (a0J hs.nd) hi (by rw[this];exact hj)
 ·have hi:os'.length<=i:=hi;unfold sub;rw[c3p (by omega)]
 ·show f9 I w (sub ks g) us res';exact b6l hg (by rw[hs.args];exact hv) hs.low
end
section
variable {I0:Nat->Nat->Prop} {X:Nat->Prop} {w0:W0} {I:Nat->Nat->Prop} {g:Nat->Value} {s:S} {a:Act} {w:World}
theorem RelI.freeze (h:RelI I0 X w0 I g s a w) (k:Nat):∃I',RelI I0 X w0 I' g ⟨s.t,b9S s.o k⟩ a w/\∀b n,I b n->I' b n:=by
 unfold b9S
 split
 ·rename_i z e rows hok;have hk:=j1 hok (by simp);rw[x5];obtain⟨us,h1,h2,h3,h4⟩:=h.obj k _ hk;have hlk:A1 s k:=⟨_,hk,by simp⟩;have hlt:k<s.o.length:=(c25.1 hk).1;have hgk:∀ {b},M9 (g k) b↔(g k).ownBlock=some b:=a0T h1;have hkp:n7 I w w:=n7.refl I w;refine⟨λb n=>I b n\/((g k).ownBlock=some b/\n<=rows.length * (ty e).sz),⟨λb n hb=>.inl (h.im b n hb),λb n hb=>?_,h.fr,h.kp,by simpa using h.lo,h.st,λj o hj=>?_,λi j b hi hj=>h.dis i j b (N2 hk (by simp) hi) (N2 hk (by simp) hj),λj hj=>h.out j (by simpa using hj),h.tmp.mono (λ_ _ h=>.inl h) hkp,h.dfr⟩,λ_ _ h=>.inl h⟩
  ·rcases hb with hb|⟨hb,_⟩
   ·exact h.lt b n hb
   ·refine⟨(h1.lt b hb).2,λhlt=>.inr ?_⟩
    rcases (h4 b hb).2.2 with hM|hM
    ·omega
    ·exact hM
  ·by_cases hjk:k=j
   ·subst hjk;simp only[c2S hlt] at hj;injection hj with hj;subst hj;refine⟨us,h1,h2,h3.mono (λ_ _ h=>.inl h) hkp,λb hb=>⟨λ_=>.inr ⟨hb,c2A _⟩,λn hn=>⟨rfl,?_⟩,(h4 b hb).2.2⟩⟩
    rcases hn with hn|⟨_,hn⟩
    ·exact((h4 b hb).2.1 n hn).2
    ·exact hn
   ·simp only[c2L hjk] at hj
    by_cases hd:o=.dead
    ·subst hd;exact True.intro
    refine(h.obj j o hj).keep (λ_ _ h=>.inl h) hkp (λ_ _=>rfl) λb hb n hn=>?_
    rcases hn with hn|⟨hn,_⟩
    ·exact hn
    ·exact absurd (h.dis k j b hlk ⟨o,hj,hd⟩ (hgk.2 hn) hb) hjk
 ·exact⟨I,h,λ_ _ h=>h⟩
theorem RelI.frz:∀(ks:List Nat) {I:Nat->Nat->Prop} {s:S},RelI I0 X w0 I g s a w->∃I',RelI I0 X w0 I' g ⟨s.t,frz ks s.o⟩ a w/\∀b n,I b n->I' b n
 | [],I,_,h=>⟨I,h,λ_ _ h=>h⟩
 | k::ks,_,_,h=>by
  obtain⟨I',h',h1⟩:=h.freeze k;obtain⟨I2,h2,h3⟩:=RelI.frz ks h';exact⟨I2,h2,λb n hb=>h3 b n (h1 b n hb)⟩
theorem U8.frz (h:U8 I0 X w0 s a w) (ks:List Nat):U8 I0 X w0 ⟨s.t,Vm.frz ks s.o⟩ a w:=by
 obtain⟨I,g,h⟩:=h;obtain⟨I',h',_⟩:=RelI.frz ks h;exact⟨I',g,h'⟩
end
def v7 (s s':S):Prop:=∀(I0:Nat->Nat->Prop) (X:Nat->Prop) (w0:W0) (a:Act) (w:World),U8 I0 X w0 s a w->U8 I0 X w0 s' a w
def b9W (s:S) (F:S->Prop):Prop:=∀(I0:Nat->Nat->Prop) (X:Nat->Prop) (w0:W0) (a:Act) (w:World),U8 I0 X w0 s a w->∃s',F s'/\U8 I0 X w0 s' a w
theorem v7.trans {s s' s2:S} (h:v7 s s') (h2:v7 s' s2):v7 s s2:=λ_ _ _ _ _ hr=>h2 _ _ _ _ _ (h _ _ _ _ _ hr)
theorem v7.frz (s:S) (ks:List Nat):v7 s ⟨s.t,Vm.frz ks s.o⟩:=λ_ _ _ _ _ hr=>hr.frz ks
def M8 (f:Nat) (vs:List V) (o:List O) (K:V->List O->List Nat->Prop):Prop:=a0U Tryd.prog f=true/\∀(I0:Nat->Nat->Prop) (X:Nat->Prop) (w0:W0) (I:Nat->Nat->Prop) (g:Nat->Value) (t:List V) (a:Act) (w:World) (us:List Value),
 RelI I0 X w0 I g ⟨t,o⟩ a w->f9 I w g us vs->Calls Tryd.prog f us.toArray w λe w'=>∃v x o' ks I' g',e=.returned v/\RelI I0 X w0 I' g' ⟨z6 ks t,o'⟩ a w'/\AtV I' w' g' v x/\K x o' ks
def b6q (f:Nat) (vs:List V) (o:List O) (x:V):Prop:=a0U Tryd.prog f=true/\∀(I0:Nat->Nat->Prop) (X:Nat->Prop) (w0:W0) (I:Nat->Nat->Prop) (g:Nat->Value) (t:List V) (a:Act) (w:World) (us:List Value),
 RelI I0 X w0 I g ⟨t,o⟩ a w->f9 I w g us vs->Calls Tryd.prog f us.toArray w λe w'=>∃v I' g',e=.returned v/\RelI I0 X w0 I' g' ⟨t,o⟩ a w'/\AtV I' w' g' v x
theorem M8.mono {f:Nat} {vs:List V} {o:List O} {K K':V->List O->List Nat->Prop} (h:M8 f vs o K) (hK:∀x o' ks,K x o' ks->K' x o' ks):M8 f vs o K' :=
 ⟨h.1,λI0 X w0 I g t a w us h1 h2=>(h.2 I0 X w0 I g t a w us h1 h2).mono λe w' ⟨v,x,o',ks,I',g',e1,e2,e3,e4⟩=>⟨v,x,o',ks,I',g',e1,e2,e3,hK _ _ _ e4⟩⟩
def a1V (f:Nat) (vs:List V) (o:List O) (K:V->List O->Prop):Prop:=a0U Tryd.prog f=true/\∀(I0:Nat->Nat->Prop) (X:Nat->Prop) (w0:W0) (I:Nat->Nat->Prop) (g:Nat->Value) (t:List V) (a:Act) (w:World) (us:List Value),
 RelI I0 X w0 I g ⟨t,o⟩ a w->f9 I w g us vs->Calls Tryd.prog f us.toArray w λe w'=>∃v x o' I' g',e=.returned v/\RelI I0 X w0 I' g' ⟨t,o'⟩ a w'/\AtV I' w' g' v x/\K x o'
theorem a1V.mono {f:Nat} {vs:List V} {o:List O} {K K':V->List O->Prop} (h:a1V f vs o K) (hK:∀x o',K x o'->K' x o'):a1V f vs o K' :=
 ⟨h.1,λI0 X w0 I g t a w us h1 h2=>(h.2 I0 X w0 I g t a w us h1 h2).mono λe w' ⟨v,x,o',I',g',e1,e2,e3,e4⟩=>⟨v,x,o',I',g',e1,e2,e3,hK _ _ e4⟩⟩
def b96:V->Option Nat
 | .ptr k _=>some k
 | .el k _ _ _=>some k
 | _=>none
def a5p (l:List Nat) (t:List V) (o o':List O):Prop:=∀i∈l,∀k,b96 (m8 t i)=some k->m5 o' k=m5 o k
def a8t (R:S->S->Prop) (body:S->(X->S->Prop)->Prop) (s:S) (K:X->S->Prop):Prop:=∃(γ:Type) (st:γ->S) (inv:γ->Prop) (μ:γ->Nat),(∀x,inv x->j2 s.o<=j2 (st x).o)/\(∃x,R s (st x)/\inv x)/\∀x,inv x->body (st x) (λe s=>a3P (λs2=>∃y,inv y/\μ y<μ x/\R s2 (st y)) K e s)
def b6r (n:Nat) (s s':S):Prop:=∀(I0:Nat->Nat->Prop) (X:Nat->Prop) (w0:W0) (a:Act) (w:World),w0.n<=n->U8 I0 X w0 s a w->U8 I0 X w0 s' a w
def FW (ro:Option Nat):Fence:={ Fence.wide with round:=ro }
def a7:Ar where
 wrap:=IntKind.wrap
 add x y:=x+y
 sub x y:=x - y
 mul x y:=x * y
 quo x y:=x.tdiv y
 rem x y:=x.tmod y
 bits:=a62
 lt x y:=decide (x<y)
 le x y:=decide (x<=y)
 eq x y:=x == y
 nz y k:=y≠0/\k
 seq x y:=x == y
 slt x y:=Op.bytesLess x y
 bytes b:=b.toList
 cat x y:=x++y
 fits x y k:=x.size+y.size<=4611686018427387904/\k
 slen b:=(b.size:Int)
 sget b n:=if 0<=n then (b[n.toNat]?).map λc=>(c.toNat:Int) else none
 ssub b l h:=if 0<=l/\l<=h/\h<=b.size then some (b.extract l.toNat h.toNat) else none
 txt:=a9q
 byt:=a8q
 nat n m:=if 0<=n/\n<m then some n.toNat else none
 len rows:=(rows.length:Int)
 get rows n:=if 0<=n then rows[n.toNat]? else none
 sub2 rows l h:=if 0<=l/\l<=h/\h<=rows.length then some ((rows.drop l.toNat).take (h.toNat - l.toNat)) else none
 app xs ys:=xs++ys
 set xs n y:=xs.set n.toNat y
 room xs ys k:=xs.length+ys.length<=137438953472/\k
 mlook:=a1u
 mput:=a0y
 deq x y:=b2d y x
 rep n z k:=(0<=n/\n<=16777216/\n.toNat * z.length<=16777216)/\k (List.replicate n.toNat z)
 call f rs K:=∃q,m6 f rs q/\K q
 calld f vs o K:=∃x,b6q f vs o x/\K x
 callo f vs s K:=M8 f vs s.o λv o' ks=>K v ⟨z6 ks s.t,o'⟩
 callx f vs l s K:=a1V f vs s.o λv o'=>a5p l s.t s.o o'/\K v ⟨s.t,o'⟩
 lit _ K:=∃c,K c
 keep n Q res s:=∃ks res' os',KeepOk n ks res' os' res s/\Q res' os'
 new _ K:=∃z,K z
 next N s:=∃F:S->Prop,b9W s F/\∀s',F s'->N s'
 reg ops s K:=∀(I0:Nat->Nat->Prop) (X:Nat->Prop) (w0:W0) (a:Act) (w:World) (ro:Option Nat) (n:Nat) (Q:Exit->Act->World->Prop),(∀o∈ops.toList,U9 Tryd.prog o.op=true)->U8 I0 X w0 s a w->(∀s' a' w',U8 I0 X w0 s' a' w'->K s'->Q .normal a' w')->wpAnyIn (FW ro) n Tryd.prog .any ops Q ops.size (Array.replicate ops.size false) a w
 ext op dst s K:=∀(I0:Nat->Nat->Prop) (X:Nat->Prop) (w0:W0) (a:Act) (w:World) (o:Oper) (Q:Exit->Act->World->Prop),o.op=op->o.dst=dst->U9 Tryd.prog op=true->U8 I0 X w0 s a w->o.wp Tryd.prog a w (λa' w'=>∃s',U8 I0 X w0 s' a' w'/\K s') Q
 loop _ body s K:=a8t weak body s K\/a8t Eq body s K\/a8t (b6r (j2 s.o)) body s K
theorem a6E {f:Nat} {vs:List V} {o:List O} {rs q:List R} (h:m6 f rs q) (hr:a0A o vs=some rs):M8 f vs o λx o' ks=>x=a2v q/\o'=o/\ks=[] :=
 ⟨h.1,λI0 X w0 I g t a w us hrel hv=>by
  refine(h.2 I w us hrel.wld (a4z hrel hv hr)).mono ?_
  rintro e w' ⟨v,rfl,hres,hbel⟩
  exact⟨v,_,o,[],_,g,rfl,hrel.grow hbel (I':=nxt I w w') (λ_ _ h=>.inl h) (λ_ _ h=>h),a6k g hres,rfl,rfl,rfl⟩⟩
theorem b4U {f:Nat} {vs:List V} {o:List O} {rs q:List R} (js:List Nat) (h:m6 f rs q) (hr:a0A (frz js o) vs=some rs):M8 f vs o λx o' ks=>x=a2v q/\o'=frz js o/\ks=[] :=
 ⟨h.1,λI0 X w0 I g t a w us hrel hv=>by
  obtain⟨I2,hrel2,hI⟩:=RelI.frz js hrel;refine(h.2 I2 w us hrel2.wld (a4z hrel2 (hv.mono hI (n7.refl _ _)) hr)).mono ?_
  rintro e w' ⟨v,rfl,hres,hbel⟩
  exact⟨v,_,_,[],_,g,rfl,hrel2.grow hbel (I':=nxt I2 w w') (λ_ _ h=>.inl h) (λ_ _ h=>h),a6k g hres,rfl,rfl,rfl⟩⟩
def a0W (f:Nat) (vs:List V) (os:List O) (Q:List V->List O->Prop):Prop:=a0U Tryd.prog f=true/\∀(I:Nat->Nat->Prop) (w:World) (g:Nat->Value) (args:List Value),
 RelI I (Xof g os) ⟨w,g,os.length,[]⟩ I g ⟨vs,os⟩ { tmps:=args.toArray,defers:=[] } w ->
 Calls Tryd.prog f args.toArray w λe w'=>∃us res os2 I' g',e=.returned (pkg us)/\(Q res os2/\∀i,i<os.length->g' i=g i)/\RelI I (Xof g os) ⟨w,g,os.length,[]⟩ I' g' ⟨res,os2⟩ { tmps:=us.toArray,defers:=[] } w'
theorem b09 {f:Nat} {vs vs':List V} {os':List O} {s:S} {ks:List Nat} {Q:List V->List O->Prop} (h:a0W f vs' os' Q) (hs:SubOk ks vs' os' vs s):M8 f vs s.o λx o' ks'=>ks'=[]/\∃res os2,Q res os2/\x=a23 (upT ks (j2 s.o) res)/\o'=I7 ks (a0B ks (j2 s.o) os2) s.o :=
 ⟨h.1,λI0 X w0 I g t a w us hrel hv=>by
  have hs':SubOk ks vs' os' vs ⟨t,s.o⟩:=⟨hs.nd,hs.len,hs.args,hs.objs,hs.al,hs.low,hs.lowo⟩;refine(h.2 I w (sub ks g) us (b6p hrel hs' hv)).mono ?_
  rintro e w' ⟨us2,res,os2,I',g1,rfl,⟨hQ,hst⟩,h1⟩
  obtain⟨g2,-,h3,h4⟩:=called hrel hs' h1;have hm:=hs.len;rw[m7,x7] at hm
  exact⟨_,_,_,[],I',g2,rfl,h4 λi k hi=>by
   have hlt:=(c25.1 hi).1;rw[hst i (by omega)];unfold sub
   rw[hi],h3,rfl,res,os2,hQ,rfl,rfl⟩⟩
theorem b0A {f:Nat} {vs vs':List V} {os':List O} {s:S} {ks:List Nat} {Q:List V->List O->Prop} (h:j3 f vs' os' Q) (hs:SubOk ks vs' os' vs s):M8 f vs s.o λx o' ks'=>ks'=ks/\∃res os2,Q res os2/\x=a23 (upT ks (j2 s.o) res)/\o'=I7 ks (a0B ks (j2 s.o) os2) (P4 ks s.o) :=
 ⟨h.1,λI0 X w0 I g t a w us hrel hv=>by
  have hs':SubOk ks vs' os' vs ⟨t,s.o⟩:=⟨hs.nd,hs.len,hs.args,hs.objs,hs.al,hs.low,hs.lowo⟩;refine(h.2 I w (sub ks g) us (b6p hrel hs' hv)).mono ?_
  rintro e w' ⟨us2,res,os2,I',g1,rfl,hQ,h1⟩
  obtain⟨g2,h2,h3,-⟩:=called hrel hs' h1
  exact⟨_,_,_,ks,I',g2,rfl,h2,h3,rfl,res,os2,hQ,rfl,rfl⟩⟩
end
section
section
variable {I0:Nat->Nat->Prop} {X:Nat->Prop} {w0:W0} {I:Nat->Nat->Prop} {g:Nat->Value} {s:S} {a:Act} {w:World}
theorem b3x {v:Value} {x:V} (h:AtV I w g v x) (h1:b4K x=true):v.oneCell'=true:=by
 cases h with
 | d h=>exact h.one
 | ag=>cases h1
 | tu=>cases h1
 | em=>rfl
 | own=>rfl
 | ptr=>rfl
 | cl=>rfl
 | el=>rfl
 | ro=>rfl
 | mp=>rfl
 | bs=>rfl
 | jk=>cases h1
theorem a6l:∀ {l:List V} {us:List Value},f9 I w g us l->a2u l=true->∀u∈us,u.oneCell'=true
 | [],us,h,_=>by rw[h.unnil];simp
 | x::l,us,h,h1=>by
  obtain⟨u,us',rfl,h2,h3⟩:=h.uncons;rw[a2u] at h1
  split at h1
  ·rename_i hx;intro y hy
   rcases c2C.1 hy with rfl|hy
   ·exact b3x h2 hx
   ·exact a6l h3 h1 y hy
  ·cases h1
theorem a45 {v:Value} {x:V} {cs:List V} (h:AtV I w g v x) (hc:a0Q x=some cs):∃us,v.cells=us.toArray/\f9 I w g us cs/\∀u∈us,u.oneCell'=true:=by
 have single:b4K x=true->cs=[x]->∃us,v.cells=us.toArray/\f9 I w g us cs/\∀u∈us,u.oneCell'=true:=λh1 e=>by
  subst e;have hv:=b3x h h1;refine⟨[v],?_,.cons h (.nil I w g),λu hu=>by simp at hu;subst hu;exact hv⟩;cases v <;> first|rfl|cases hv
 cases x with
 | ag l =>
  rw[a0Q] at hc
  split at hc
  ·rename_i h1;injection hc with hc;subst hc;obtain⟨us,rfl,h2⟩:=h.unag;exact⟨us,rfl,h2,a6l h2 h1⟩
  ·cases hc
 | jk=>cases hc
 | tu l=>cases hc
 | d x=>injection hc with hc;exact single rfl hc.symm
 | em=>injection hc with hc;exact single rfl hc.symm
 | bs k n=>injection hc with hc;exact single rfl hc.symm
 | own k=>injection hc with hc;exact single rfl hc.symm
 | ptr k off=>injection hc with hc;exact single rfl hc.symm
 | cl f ks=>injection hc with hc;exact single rfl hc.symm
 | el k i sz off=>injection hc with hc;exact single rfl hc.symm
 | ro l off=>injection hc with hc;exact single rfl hc.symm
 | mp k=>injection hc with hc;exact single rfl hc.symm
def Yld (I0:Nat->Nat->Prop) (X:Nat->Prop) (w0:W0) (g:Nat->Value) (s:S) (a:Act) (w:World) (m:Sem Value) (K:V->Prop):Prop:=∃v x w' I',m.run Tryd.prog w=.ok v w'/\RelI I0 X w0 I' g s a w'/\AtV I' w' g v x/\K x
theorem yld {m:Sem Value} {K:V->Prop} (h:RelI I0 X w0 I g s a w) {v:Value} {x:V} (hm:m.run Tryd.prog w=.ok v w) (hv:AtV I w g v x) (hK:K x):Yld I0 X w0 g s a w m K:=⟨v,x,w,I,hm,h,hv,hK⟩
theorem atb (b:Bool):AtV I w g (.bool b) (vb b):=.d (.sc _ rfl)
theorem ati (k:IntKind) (n:Int):AtV I w g (.int k n) (vi k n):=.d (.sc _ rfl)
theorem ats (b:ByteArray):AtV I w g (.string b) (vs b):=.d (.sc _ rfl)
theorem AtV.sc {v u:Value} (h:AtV I w g v (.d (.sc u))):v=u:=by cases h with|d h=>cases h;rfl
theorem b2h {rows:List (List D)} {i:Int} {row:List D} (h:a7.get rows i=some row):0<=i/\rows[i.toNat]?=some row:=by
 simp only[a7] at h
 split at h
 ·exact⟨by assumption,h⟩
 ·cases h
theorem a5q (h:RelI I0 X w0 I g s a w) {K:V->Prop} {t:Nat} (ht:c8 t=true) {v:Value} {x:V} (hv:AtV I w g v x) (hK:B1 a7 s.o K t x):∃u y,(Instr.loadAt t v).run Tryd.prog w=.ok u w/\AtV I w g u y/\K y:=by
 cases x <;> try exact hK.elim
 case ptr k off =>
  simp only[B1] at hK
  split at hK <;> try exact hK.elim
  rename_i cs ho
  split at hK <;> try exact hK.elim
  rename_i l hl
  split at hK <;> try exact hK.elim
  rename_i x hx;obtain⟨b,us,t',h1,h2,h3,_⟩:=h.obj k _ (j1 ho (by simp));cases hv with
  | ptr k off b' hg =>
   rw[h1] at hg;injection hg with hg;injection hg with hg;injection hg with hg;subst hg;rw[a0n] at hl;obtain⟨e,he⟩:=a0o hl;have hu:f9 I w g ((us.drop off).take (ty t).sz) l:=by rw[e];exact(h3.drop off).take _
   obtain⟨v,h4,h5⟩:=a9y (w:=w) (b:=b) (p:=off) ht (by rw[hu.1,he]) (λj u hj=>by
    rw[c3g] at hj
    split at hj
    ·rw[c3e] at hj;rw[cell_of_row w b (off+j) (us++t'.2).toArray t'.1 (0,0) h2];have hlt:=(c25.1 hj).1;simp only[c3W];rw[c2R hlt];exact hj
    ·cases hj) hu hx
   exact⟨v,x,h4,h5,hK⟩
 case ro cs off =>
  simp only[B1] at hK
  split at hK <;> try exact hK.elim
  rename_i l hl
  split at hK <;> try exact hK.elim
  rename_i x hx;cases hv with
  | ro b o off us cs hI hc hd =>
   rw[a0n] at hl;obtain⟨e,he⟩:=a0o hl;have hu:s8 I w ((us.drop off).take (ty t).sz) l:=by rw[e];exact(hd.drop off).take _
   obtain⟨v,h4,h5⟩:=a9y (w:=w) (b:=b) (p:=o+off) ht (by rw[hu.1,he]) (λj u hj=>by
    rw[c3g] at hj
    split at hj
    ·rw[c3e] at hj;rw[c3J];exact hc _ _ hj
    ·cases hj) (hu.toV g) hx
   exact⟨v,x,h4,h5,hK⟩
 case el k i sz off =>
  simp only[B1] at hK
  split at hK <;> try exact hK.elim
  rename_i z e rows ho
  split at hK <;> try exact hK.elim
  rename_i hsz;rw[w8] at hsz
  split at hK <;> try exact hK.elim
  rename_i row hrow
  split at hK <;> try exact hK.elim
  rename_i l hl
  split at hK <;> try exact hK.elim
  rename_i x hx;obtain⟨us,h1,h2,h3,_⟩:=h.obj k _ (j1 ho (by simp));have hrow':=b2h hrow;cases hv with
  | el k i sz off b n cap hg =>
   rw[hg] at h1;obtain⟨A',cap',e0⟩:=L8 h1;injection e0 with _ e0 _;subst e0;rw[a0n] at hl;obtain⟨e1,he⟩:=a0o hl;have hrl:=h2 _ (c2F hrow'.2);have hlt:i.toNat<rows.length:=(c25.1 hrow'.2).1
   have hfit:off+(ty t).sz<=(ty e).sz\/(ty t).sz=0:=by
    rw[e1,c3h,c3K,hrl] at he;omega
   have hsub:i.toNat * (ty e).sz+(ty e).sz<=rows.length * (ty e).sz:=by rw[<-c3N];exact c31 _ hlt
   rw[<-hsz]
   have hu:s8 I w ((us.drop (i.toNat * (ty e).sz+off)).take (ty t).sz) l:=by
    refine⟨by rw[c3h,c3K,h1.1,he];omega,λj u d hj hd=>?_⟩;rw[c3g] at hj
    split at hj
    ·rename_i hjl;rw[c3e,c3J] at hj;refine h3.2 _ _ _ hj ?_;rw[K6 h2 hrow'.2 (by omega)];rw[e1,c3g,c2E hjl,c3e] at hd;exact hd
    ·cases hj
   obtain⟨v,h4,h5⟩:=a9y (w:=w) (b:=b) (p:=i.toNat * (ty e).sz+off) ht (by rw[hu.1,he]) (λj u hj=>by
    rw[c3g] at hj
    split at hj
    ·rename_i hjl;rw[c3e] at hj;have hin:i.toNat * (ty e).sz+off+j<rows.length * (ty e).sz:=by omega
     rw[World.ownsRow.cellAt h1 _ hin];exact hj
    ·cases hj) (hu.toV g) hx
   exact⟨v,x,h4,h5,hK⟩
theorem b8v (h:RelI I0 X w0 I g s a w) {K:V->Prop} {t:Nat} (ht:c8 t=true) {v:Value} {x:V} (hv:AtV I w g v x) (hK:B1 a7 s.o K t x):Yld I0 X w0 g s a w (Instr.loadAt t v) K:=by
 obtain⟨u,y,h1,h2,h3⟩:=a5q h ht hv hK;exact yld h h1 h2 h3
theorem b6s (h:RelI I0 X w0 I g s a w) {K:V->Prop} {t i:Nat} (ht:c8 t=true) {v:Value} {x:V} (hv:AtV I w g v x) (hK:M7 K t i x):Yld I0 X w0 g s a w (Instr.fieldAt t v i) K:=by
 simp only[M7] at hK
 split at hK <;> try exact hK.elim
 rename_i off sz hf;obtain⟨fs,f,h1,h2,h3,h4,_⟩:=b6j ht (a13 hf)
 have hs:(sizeOf f.type).run Tryd.prog w=.ok (sz+1) w:=by
  cases hi:Tryd.prog.info? f.type with
  | none=>rw[hi] at h4;cases h4
  | some i=>rw[hi] at h4;simp only[c3F,Option.some.injEq] at h4;simp[sizeOf,typeInfo,hi,h4]
 have key:∀b p,(Instr.fieldAt t (.pointer (some ⟨b,p,none⟩)) i).run Tryd.prog w=.ok (.pointer (some ⟨b,p+off,none⟩)) w:=λb p=>by
  simp[Instr.fieldAt,run_underlying h1,h2,Instr.sureAddr,fieldPlace,hs,Addr.add_lit,h3]
 cases x <;> try exact hK.elim
 case ptr k o =>
  cases hv with
  | ptr k o b hg=>exact yld h (key b o) (.ptr k (o+off) b hg) hK
 case el k i sz o =>
  cases hv with
  | el k i sz o b n cap hg=>exact yld h (key b _) (by rw[c3J];exact .el k i sz (o+off) b n cap hg) hK
 case ro cs o =>
  cases hv with
  | ro b o' off' us cs hI hc hd=>exact yld h (key b _) (by rw[c3J];exact .ro b o' (o+off) us cs hI hc hd) hK
theorem b8w (h:RelI I0 X w0 I g s a w) {K:V->Prop} {t i:Nat} (ht:c8 t=true) (hty:∀u,(ty t).fty[i]?=some u->c8 u=true) {v:Value} {x:V} (hv:AtV I w g v x) (hK:b00 K t i x):Yld I0 X w0 g s a w (Instr.field t v i) K:=by
 simp only[b00] at hK
 split at hK <;> try exact hK.elim
 rename_i u off sz cs hu hf
 split at hK <;> try exact hK.elim
 rename_i l hl
 split at hK <;> try exact hK.elim
 rename_i y hy;obtain⟨fs,f,h1,h2,h3,h4,h5,_⟩:=b6j ht (a13 hf);have h6:=a13 hu;rw[h5] at h6;injection h6 with h6;subst h6;have hku:=hty _ h5;obtain⟨us,rfl,h7⟩:=hv.unag;rw[a0n] at hl;obtain⟨e,he⟩:=a0o hl;have hul:f9 I w g ((us.drop off).take (ty f.type).sz) l:=by rw[e];exact(h7.drop off).take _
 obtain⟨hx,hone⟩:=a9x hul hy;refine yld h ?_ hx hK;simp only[Instr.field,Sem.run_bind,run_underlying h1,Result.andThen_ok,h2,asAgg,Sem.run_pure,part,a9w hku,h3];cases hag:(ty f.type).agg with
 | true =>
  have hsz:=H8 hku w
  simp[hsz]
 | false =>
  have hlen:=hone hag;simp only[c4g,c4Y]
  have hlt:off<us.length:=by
   rw[c3h,c3K] at hlen;omega
  have:us.toArray[off]?=some (((us.drop off).take (ty f.type).sz).getD 0 undef):=by
   simp only[c3W,c2V,c3g,c3e,c3I];have hsz:0<(ty f.type).sz:=by rw[c3h] at hlen;omega
   rw[c2E hsz,c28 hlt];rfl
  rw[this];rfl
theorem a96 (h:RelI I0 X w0 I g s a w) {v:Value} {x:V} {o:Option Nat} {rows:List (List D)} (hv:AtV I w g v x) (hr:I5 s.o x=some (o,rows)):AtD I w v (.sl (o.getD 0) rows)/\(o=none->rows=[]):=by
 cases x with
 | d x =>
  cases x with
  | sc u=>simp[I5] at hr
  | sl sz rows' =>
   simp only[I5,Option.some.injEq,Prod.mk.injEq] at hr;obtain⟨rfl,rfl⟩:=hr;cases hv with
   | d h=>exact⟨h,by simp⟩
 | em =>
  simp only[I5,Option.some.injEq,Prod.mk.injEq] at hr;obtain⟨rfl,rfl⟩:=hr;cases hv;exact⟨.nil _ _ _,λ_=>rfl⟩
 | own k =>
  have hr':=hr;simp only[I5] at hr
  split at hr
  ·rename_i e rows' ho;simp only[Option.some.injEq,Prod.mk.injEq] at hr;obtain⟨rfl,rfl⟩:=hr;refine⟨a90 h hv ?_,by simp⟩;simp only[toD,ho];rfl
  ·cases hr
 | ag cs=>simp[I5] at hr
 | tu cs=>simp[I5] at hr
 | ptr k off=>simp[I5] at hr
 | cl f ks=>simp[I5] at hr
 | el k i sz off=>simp[I5] at hr
 | ro cs off=>simp[I5] at hr
 | mp k=>simp[I5] at hr
 | bs k n=>simp[I5] at hr
 | jk=>simp[I5] at hr
theorem b3y {sz:Nat} {o:Option Nat} {v:Value} {rows:List (List D)} (hs:b8r sz o=true) (h:AtD I w v (.sl (o.getD 0) rows)) (hn:o=none->rows=[]):AtD I w v (.sl sz rows):=by
 cases o with
 | none =>
  rw[hn rfl] at h ⊢;obtain⟨A,cap,rfl,-⟩:=h.slice;exact .nil _ _ _
 | some n =>
  rw[b8r,w8] at hs;subst hs;exact h
theorem b6t (h:RelI I0 X w0 I g s a w) {K:V->Prop} {t:Nat} (ht:c8 t=true) (hte:∀e,(ty t).elem=some e->c8 e=true) (htv:(ty t).kind=.array->∀e,(ty t).val=some e->c8 e=true) {v u:Value} {x i:V} (hv:AtV I w g v x) (hu:AtV I w g u i) (hK:o8 a7 s.o K t x i):Yld I0 X w0 g s a w (Instr.indexAt t v u) K:=by
 simp only[o8] at hK
 split at hK <;> try exact hK.elim
 rename_i k n
 split at hK
 ·rename_i hkd
  split at hK <;> try exact hK.elim
  rename_i e he
  split at hK <;> try exact hK.elim
  rename_i j hj;have hun:=a66 ht hkd he;have hu':=hu.sc;subst hu'
  have hn:(0<=n/\n<((ty t).alen:Int))/\n.toNat=j:=by
   simp only[a7] at hj
   split at hj
   ·rename_i h1;injection hj with hj;exact⟨h1,hj⟩
   ·cases hj
  obtain⟨hn,rfl⟩:=hn
  have key:∀b p,(Instr.indexAt t (.pointer (some ⟨b,p,none⟩)) (.int k n)).run Tryd.prog w=.ok (.pointer (some ⟨b,p+n.toNat * (ty e).sz,none⟩)) w:=λb p=>by
   simp[Instr.indexAt,asIntOf,run_underlying hun,hn,Instr.sureAddr,H8 (htv hkd e he),Addr.add_lit]
  cases x <;> try exact hK.elim
  case ptr k' o =>
   cases hv with
   | ptr k' o b hg=>exact yld h (key b o) (.ptr k' _ b hg) hK
  case el k' i sz o =>
   cases hv with
   | el k' i sz o b n' cap hg=>exact yld h (key b _) (by rw[c3J];exact .el k' i sz _ b n' cap hg) hK
  case ro cs o =>
   cases hv with
   | ro b o' off' us cs hI hc hd=>exact yld h (key b _) (by rw[c3J];exact .ro b o' _ us cs hI hc hd) hK
 split at hK <;> try exact hK.elim
 rename_i e he
 split at hK
 ·rename_i k' m hbs
  split at hK <;> try exact hK.elim
  rename_i j hj
  have hx:x=.bs k' m:=by
   unfold bsV at hbs
   split at hbs
   ·injection hbs with hbs;injection hbs with e1 e2;rw[e1,e2]
   ·cases hbs
  subst hx;obtain⟨b,cap,hg,rfl,hle⟩:=hv.unbs;have hu':=hu.sc;subst hu'
  have hn:(0<=n/\n<(m:Int))/\n.toNat=j:=by
   simp only[a7] at hj
   split at hj
   ·rename_i h1;injection hj with hj;exact⟨h1,hj⟩
   ·cases hj
  obtain⟨hn,rfl⟩:=hn;have hun:=E4 ht he;refine yld h (v:=.pointer (some ⟨b,n.toNat * (ty e).sz,none⟩)) ?_ (.ptr k' _ b hg) hK
  simp[Instr.indexAt,asIntOf,run_underlying hun,hn,H8 (hte e he),Addr.add_lit]
 split at hK
 ·rename_i k' e' rows hr
  split at hK <;> try exact hK.elim
  rename_i hee;rw[w8] at hee;subst hee
  split at hK <;> try exact hK.elim
  rename_i row hrow;have hrow':=b2h hrow;have hu':=hu.sc;subst hu';unfold a6h at hr
  split at hr <;> try cases hr
  rename_i k1
  split at hr <;> cases hr
  rename_i ho;obtain⟨us,h1,h2,h3,_⟩:=h.obj k' _ (j1 ho (by simp));obtain⟨rfl,A,m,cap,hg⟩:=hv.unown;rw[a27 h1] at hg ⊢;have hlt:n.toNat<rows.length:=(c25.1 hrow'.2).1;have hn:0<=n/\n<(rows.length:Int):=⟨hrow'.1,by omega⟩;have hun:=E4 ht he
  rcases h1.2 with⟨_,e2⟩|⟨b,cap',cur,e1,_⟩
  ·omega
  ·refine yld h (v:=.pointer (some ⟨b,n.toNat * (ty e').sz+0,none⟩)) ?_ (.el k' n (ty e').sz 0 b _ cap' e1) hK;rw[e1]
   simp[Instr.indexAt,asIntOf,run_underlying hun,hn,H8 (hte e' he),Addr.add_lit]
 split at hK <;> try exact hK.elim
 rename_i sz rows hr
 split at hK <;> try exact hK.elim
 rename_i hsz;rw[w8] at hsz;subst hsz
 split at hK <;> try exact hK.elim
 rename_i row hrow;obtain⟨h1,_⟩:=a96 h hv hr;simp only[c4H] at h1
 have hrow':0<=n/\rows[n.toNat]?=some row:=by
  simp only[a7] at hrow
  split at hrow
  ·exact⟨by assumption,hrow⟩
  ·cases hrow
 have hu':=hu.sc;subst hu';have hlt:n.toNat<rows.length:=(c25.1 hrow'.2).1;obtain⟨A,cap,rfl,hcap,h2⟩:=h1.slice
 rcases h2 with rfl|⟨b,off,us,rfl,hI,hrl,hl,hc,hd⟩
 ·simp at hlt
 ·have hn:0<=n/\n<(rows.length:Int):=⟨hrow'.1,by omega⟩;have hun:=E4 ht he;have hrsz:=hrl _ (c2F hrow'.2);refine yld h (v:=.pointer (some ⟨b,off+n.toNat * (ty e).sz,none⟩)) ?_ (.ro b (off+n.toNat * (ty e).sz) 0 ((us.drop (n.toNat * (ty e).sz)).take (ty e).sz) row ?_ (λj y hy=>?_) ⟨?_,λj y d hy hdj=>?_⟩) hK
  ·simp[Instr.indexAt,asIntOf,run_underlying hun,hn,H8 (hte e he),Addr.add_lit]
  ·refine hI.down ?_;rw[hrsz];have:n.toNat * (ty e).sz+(ty e).sz<=rows.length * (ty e).sz:=by rw[<-c3N];exact c31 _ hlt
   omega
  ·rw[c3g] at hy
   split at hy
   ·rw[c3e] at hy;rw[c3J];exact hc _ _ hy
   ·cases hy
  ·rw[c3h,c3K,hl,hrsz];have:n.toNat * (ty e).sz+(ty e).sz<=rows.length * (ty e).sz:=by rw[<-c3N];exact c31 _ hlt
   omega
  ·rw[c3g] at hy
   split at hy
   ·rename_i hj;rw[c3e] at hy;exact hd.2 _ _ _ hy (by rw[K6 hrl hrow'.2 hj];exact hdj)
   ·cases hy
end
end
section
theorem a5r {j k:IntKind} (h:keq j k=true):j=k:=by cases j <;> cases k <;> first|rfl|cases h
theorem a01 (b c:Bool):bEq b c=(b == c):=by cases b <;> cases c <;> rfl
theorem b0B {t:Nat} (h:c8 t=true) {d:TypeDesc} (hu:Tryd.prog.underlying t=some d) (hd:b0x (some d)=some false):(ty t).agg=false:=by
 have:=(a39 t h).agg;rw[hu,hd] at this;exact(Option.some.inj this).symm
def I3:D->Value
 | .sc v=>v
 | .sl _ _=>.nilFunc
def rVal:R->Value
 | .one d=>I3 d
 | .ag ds=>.agg (ds.map I3).toArray
theorem a8u {k:TK} {d:D} (h:a0d k d=true):∃v,d=.sc v:=by
 cases d with
 | sc v=>exact⟨v,rfl⟩
 | sl sz rows=>cases k <;> cases h
theorem a6G:∀ {us:List Nat} {fs:List (Nat×Nat)} {n:Nat} {ds:List D},N0 us fs n ds=true->∀d∈ds,∃v,d=.sc v
 | [],[],n,[],_=>by simp
 | u::us,(off,1)::fs,n,d::ds,h=>by
  rw[N0] at h
  split at h
  ·split at h
   ·rename_i h1;intro x hx
    rcases c2C.1 hx with rfl|hx
    ·exact a8u h1
    ·exact a6G h x hx
   ·cases h
  ·cases h
theorem b9X {t:Nat} {r:R} (h:a2o t r=true):(∃v,r=.one (.sc v))\/∃ds,r=.ag ds/\∀d∈ds,∃v,d=.sc v:=by
 cases r with
 | one d=>obtain⟨v,rfl⟩:=a8u h;exact .inl ⟨v,rfl⟩
 | ag ds =>
  rw[a2o] at h
  split at h
  ·split at h
   ·exact .inr ⟨ds,rfl,a6G h⟩
   ·cases h
  ·cases h
section
variable {I:Nat->Nat->Prop} {w:World}
theorem AtD.val {v:Value} {u:Value} (h:AtD I w v (.sc u)):v=u:=by cases h;rfl
theorem a3p {t:Nat} {v:Value} {r:R} (h:AtR I w v r) (hk:a2o t r=true):v=rVal r:=by
 rcases b9X hk with⟨u,rfl⟩|⟨ds,rfl,hs⟩
 ·exact AtD.val h
 ·obtain⟨us,rfl,hl,hd⟩:=h
  have:us=ds.map I3:=by
   refine c4b λi=>?_
   rw[c3i];cases hi:ds[i]? with
   | none =>
    rw[List.getElem?_eq_none_iff] at hi;rw[c3p (by omega)];rfl
   | some d =>
    have hlt:i<us.length:=by rw[hl];exact(c25.1 hi).1
    obtain⟨u,rfl⟩:=hs d (c2F hi);rw[c28 hlt];exact congrArg some (hd i _ _ (c28 hlt) hi).val
  rw[this];rfl
end
theorem a2A (m n:Nat):a07 m n=(m == n):=by
 rw[c4P,c3q];exact⟨c3X,λh=>by rw[h];exact Nat.beq_refl n⟩
theorem a0X (m n:Int):a2k m n=(m == n):=by
 rw[c4P,c3q];cases m <;> cases n <;> simp[a2k,a2A]
 exact Int.ofNat_inj.symm
theorem Y6:∀x y:List UInt8,a1P x y=(x == y)
 | [],[]=>rfl
 | [],_::_=>rfl
 | _::_,[]=>rfl
 | x::l,y::m=>by
  rw[a1P,a2A,Y6 l m]
  by_cases h:x=y
  ·subst h;simp
  ·have h1:(x.toNat == y.toNat)=false:=c2O.2 λe=>h (c42.1 e)
   have h2:(x::l == y::m)=false:=c2O.2 λe=>h (by injection e)
   rw[h1,h2]
theorem a6H (x y:ByteArray):(x == y)=(x.data.toList == y.data.toList):=by
 rw[beq_toListBytes,ByteArray.toList_eq,ByteArray.toList_eq]
structure ScalOk (t:Nat) (x y:D) (d:TypeDesc):Prop where
 un:Tryd.prog.underlying t=some d
 ag:b0x (some d)=some false
 now:Instr.sameNow d (I3 x) (I3 y)=some (dEq y x)
 eq:∀(n:Nat) (w:World),(Op.equalIn (n+1) t (I3 x) (I3 y)).run Tryd.prog w=.ok (dEq y x) w
 chk:∀(e:Bool) (n:Nat) (w:World),(Instr.checkKey e (n+1) t (I3 x)).run Tryd.prog w=.ok () w
 bits:∀n,Instr.sameBits n (I3 x) (I3 x)=true
theorem a47 {k:TK} {d:D} (h:a0d k d=true):(∃q m,k=.int q/\d=.sc (.int q m))\/(∃s,k=.str/\d=.sc (.string s))\/∃b,k=.bool/\d=.sc (.bool b):=by
 unfold a0d at h
 split at h
 ·rename_i q q' m;obtain rfl:=a5r h;exact .inl ⟨_,m,rfl,rfl⟩
 ·exact .inr (.inl ⟨_,rfl,rfl⟩)
 ·exact .inr (.inr ⟨_,rfl,rfl⟩)
 ·cases h
theorem a3q {t:Nat} (ht:c8 t=true) {x y:D} (hx:a0d (ty t).kind x=true) (hy:a0d (ty t).kind y=true):∃d,ScalOk t x y d:=by
 rcases a47 hx with⟨q,m,hk,rfl⟩|⟨m,hk,rfl⟩|⟨m,hk,rfl⟩ <;> rcases a47 hy with⟨q',n,hk',rfl⟩|⟨n,hk',rfl⟩|⟨n,hk',rfl⟩ <;> rw[hk] at hk' <;> first|cases hk';done|skip
 ·injection hk' with hk'
  subst hk';have hu:=a65 ht hk;refine⟨_,hu,rfl,?_,λn w=>?_,λe n w=>?_,λn=>?_⟩
  ·simp only[Instr.sameNow,I3,dEq,a0X,c4I];rw[BEq.comm]
  ·simp only[Op.equalIn,run_underlying hu,I3,dEq,a0X,Sem.run_bind,Result.andThen_ok,c4I,Sem.run_pure];rw[BEq.comm]
  ·simp[Instr.checkKey,run_underlying hu,I3]
  ·cases n <;> simp[Instr.sameBits,I3]
 ·have hu:=a3Q ht hk;refine⟨_,hu,rfl,?_,λn w=>?_,λe n w=>?_,λn=>?_⟩
  ·simp only[Instr.sameNow,I3,dEq,Y6,a6H];rw[BEq.comm]
  ·simp only[Op.equalIn,run_underlying hu,I3,dEq,Y6,a6H,Sem.run_bind,Result.andThen_ok,Sem.run_pure];rw[BEq.comm]
  ·simp[Instr.checkKey,run_underlying hu,I3]
  ·have h0:(m == m)=true:=by rw[a6H];simp
   cases n <;> exact h0
 ·have hu:=b3t ht hk;refine⟨_,hu,rfl,?_,λn w=>?_,λe n w=>?_,λn=>?_⟩
  ·simp only[Instr.sameNow,I3,dEq,a01];rw[BEq.comm]
  ·simp only[Op.equalIn,run_underlying hu,I3,dEq,a01,Sem.run_bind,Result.andThen_ok,Sem.run_pure];rw[BEq.comm]
  ·simp[Instr.checkKey,run_underlying hu,I3]
  ·cases n <;> simp[Instr.sameBits,I3]
theorem a5s {u:Nat} {us:Array Value} {off:Nat} {v:Value} {w:World} (h:(ty u).agg=false) (hu:c8 u=true) (hv:us[off]?=some v):(part u us off).run Tryd.prog w=.ok v w:=by
 simp only[part,Sem.run_bind,a9w hu,h,Result.andThen_ok,c4g,c4Y,hv,Sem.run_pure]
def FOk:List Field->Nat->List D->Prop
 | [],_,[]=>True
 | f::fs,n,d::ds=>f.offset=n/\c8 f.type=true/\(f.name != "_")=true/\a0d (ty f.type).kind d=true/\FOk fs (n+1) ds
 | _,_,_=>False
theorem b6u:∀ {fs:List Field} {fl:List (Nat×Nat)} {n:Nat} {ds:List D},fs.map (·.offset)=fl.map (·.1)->(∀f∈fs,c8 f.type=true/\(f.name != "_")=true)->N0 (fs.map (·.type)) fl n ds=true->FOk fs n ds
 | [],[],n,[],_,_,_=>trivial
 | [],[],n,_::_,_,_,h=>by cases h
 | [],_::_,n,ds,h,_,_=>by cases h
 | f::fs,[],n,ds,h,_,_=>by cases h
 | f::fs,(off,sz)::fl,n,ds,ho,hk,h=>by
  rw[c2Y,c2Y] at ho;injection ho with ho1 ho2;simp only at ho1;rw[c2Y] at h;unfold N0 at h
  split at h
  ·contradiction
  ·rename_i u us off' fs' n' d ds e1 e2;injection e1 with e1 e3;injection e2 with e2 e4;injection e2 with e2 e5;subst e1;subst e3;subst e4;subst e2
   split at h
   ·rename_i h1
    split at h
    ·rename_i h2;rw[w8] at h1;exact⟨ho1.trans h1,(hk f (c27 ..)).1,(hk f (c27 ..)).2,h2,b6u ho2 (λf hf=>hk f (c26 _ hf)) h⟩
    ·cases h
   ·cases h
  ·cases h
section
variable {w:World}
theorem a8v:∀ {fs:List Field} {n:Nat} {xs ys:List D} {us vs:List D},us.length=n->vs.length=n->FOk fs n xs->FOk fs n ys->∀m,(Op.eqFields (m+1) ((us++xs).map I3).toArray ((vs++ys).map I3).toArray fs).run Tryd.prog w=.ok (b2d ys xs) w
 | [],n,[],[],us,vs,_,_,_,_,m=>rfl
 | f::fs,n,x::xs,y::ys,us,vs,hu,hv,hx,hy,m=>by
  obtain⟨h1,h2,h3,h4,h5⟩:=hx;obtain⟨g1,g2,g3,g4,g5⟩:=hy;obtain⟨d,hd⟩:=a3q h2 h4 g4;have hag:=b0B h2 hd.un hd.ag;have px:(part f.type ((us++x::xs).map I3).toArray f.offset).run Tryd.prog w=.ok (I3 x) w:=a5s hag h2 (by rw[h1,<-hu];simp);have py:(part f.type ((vs++y::ys).map I3).toArray f.offset).run Tryd.prog w=.ok (I3 y) w:=a5s hag h2 (by rw[h1,<-hv];simp);have ih:=a8v (fs:=fs) (n:=n+1) (us:=us++[x]) (vs:=vs++[y]) (by simp[hu]) (by simp[hv]) h5 g5 m;rw[c3m,c3m] at ih;simp only[List.singleton_append] at ih;rw[Op.eqFields,c2E (by simpa using h3)];simp only[Sem.run_bind,px,py,Result.andThen_ok,hd.eq m w];rw[b2d];cases dEq y x with
  | false=>rfl
  | true=>exact ih
theorem a6I {em:Bool} {m:Nat}:∀ {fs:List Field} {n:Nat} {xs us:List D},us.length=n->FOk fs n xs->(forIn fs PUnit.unit λf (_:PUnit)=>(if f.name ≠ "_" then do Instr.checkKey em (m+1) f.type (<-part f.type ((us++xs).map I3).toArray f.offset);pure (.yield PUnit.unit) else pure (.yield PUnit.unit):Sem (ForInStep PUnit))).run Tryd.prog w=.ok PUnit.unit w
 | [],n,[],us,_,_=>rfl
 | f::fs,n,x::xs,us,hu,hx=>by
  obtain⟨h1,h2,h3,h4,h5⟩:=hx;obtain⟨d,hd⟩:=a3q h2 h4 h4;have hag:=b0B h2 hd.un hd.ag;have px:(part f.type ((us++x::xs).map I3).toArray f.offset).run Tryd.prog w=.ok (I3 x) w:=a5s hag h2 (by rw[h1,<-hu];simp);have ih:=a6I (em:=em) (m:=m) (fs:=fs) (n:=n+1) (us:=us++[x]) (by simp[hu]) h5;rw[c3m] at ih;simp only[List.singleton_append] at ih;rw[List.forIn_cons];rw[c2E (by simpa using h3)];simp only[Sem.run_bind,px,Result.andThen_ok,hd.chk em m w,Sem.run_pure];exact ih
theorem b0C:∀ {n:Nat} {xs:List D},(∀x∈xs,Instr.sameBits n (I3 x) (I3 x)=true)->Instr.sameBits (n+1) (.agg (xs.map I3).toArray) (.agg (xs.map I3).toArray)=true:=by
 intro n xs h;simp only[Instr.sameBits,c4a,c3R,c3a];intro p hp;obtain⟨i,hi⟩:=c2Z.1 hp;rw[c3V] at hi;have e:p.1=p.2:=Option.some.inj (hi.1.symm.trans hi.2);have h2:=hi.1;simp only[c3i] at h2;obtain⟨x,hx,hpx⟩:=c3z.1 h2;obtain⟨p1,p2⟩:=p;simp only at e hpx ⊢;rw[<-e,<-hpx];exact h x (c2F hx)
theorem a6J {t:Nat}:∀ {l:List Nat},b3m t l=true->t∈l
 | [],h=>by cases h
 | u::l,h=>by
  rw[b3m] at h
  split at h
  ·rename_i e;rw[w8] at e;rw[e];exact c27 ..
  ·exact c26 _ (a6J h)
theorem a2B {t:Nat} (ht:c8 t=true) (hf:∀u∈(ty t).fty,c8 u=true) {ds:List D} (h:a2o t (.ag ds)=true):∃fs,Tryd.prog.underlying t=some (.struct fs)/\Tryd.prog.stoodInHeld t=false/\FOk fs.toList 0 ds:=by
 rw[a2o] at h
 split at h
 ·rename_i hst
  split at h
  ·rename_i hs;have hm:=b3k t (a6J hs);unfold b2b at hm;simp only[c2B,c49] at hm;obtain⟨⟨h1,_⟩,h2⟩:=hm;obtain⟨fs,hu,h3,h4⟩:=a5i ht hst;rw[hu] at h2;refine⟨fs,hu,h1,b6u (fl:=(ty t).flds) ?_ (λf hfm=>⟨hf _ (by rw[<-h4];exact List.mem_map_of_mem hfm),c3a.1 h2 f hfm⟩) (by rw[h4];exact h)⟩;have:=congrArg (List.map Prod.fst) h3
   simpa [c3s,Function.comp_def] using this
  ·cases h
 ·cases h
structure KeyOk (t:Nat) (x y:R) (w:World):Prop where
 eq:(Op.equal t (rVal x) (rVal y)).run Tryd.prog w=.ok (rEq y x) w
 chk:∀e,(Instr.checkKey e 10000 t (rVal x)).run Tryd.prog w=.ok () w
 bits:Instr.sameBits 10000 (rVal x) (rVal x)=true
 now:∀d,Tryd.prog.underlying t=some d->Instr.sameNow d (rVal x) (rVal y)=some (rEq y x)\/Instr.sameNow d (rVal x) (rVal y)=none
theorem a97 {t:Nat} (ht:c8 t=true) (hf:∀u∈(ty t).fty,c8 u=true) {x y:R} (hx:a2o t x=true) (hy:a2o t y=true):KeyOk t x y w:=by
 cases x with
 | one x =>
  cases y with
  | one y =>
   obtain⟨d,hd⟩:=a3q ht hx hy
   exact⟨hd.eq 9999 w,λe=>hd.chk e 9999 w,hd.bits _,λd' hd'=>by
    have h:=hd.un;rw[hd'] at h;injection h with h;subst h
    exact .inl hd.now⟩
  | ag ys =>
   obtain⟨fs,hu,_⟩:=a2B ht hf hy;obtain⟨d,hd⟩:=a3q ht hx hx;have h:=hd.un;rw[hu] at h;injection h with h;subst h;cases hd.ag
 | ag xs =>
  obtain⟨fs,hu,hst,hfx⟩:=a2B ht hf hx;cases y with
  | one y =>
   obtain⟨d,hd⟩:=a3q ht hy hy;have h:=hd.un;rw[hu] at h;injection h with h;subst h;cases hd.ag
  | ag ys =>
   obtain⟨fs',hu',_,hfy⟩:=a2B ht hf hy;rw[hu] at hu';injection hu' with hu'
   injection hu' with hu'
   subst hu';have hfo:Tryd.prog.fieldsOf t=fs:=by unfold Program.fieldsOf;rw[hu]
   refine⟨?_,λe=>?_,?_,λd hd=>?_⟩
   ·have h1:=run_equalIn_struct w 9999 t (xs.map I3).toArray (ys.map I3).toArray (by rw[hfo];exact hu) hst;rw[hfo] at h1;exact h1.trans (a8v (us:=[]) (vs:=[]) rfl rfl hfx hfy 9998)
   ·have h1:=a6I (w:=w) (em:=e) (m:=9998) (us:=[]) rfl hfx;show (Instr.checkKey e (9999+1) t (.agg (xs.map I3).toArray)).run Tryd.prog w=_;rw[Instr.checkKey];simp only[Sem.run_bind,run_underlying hu,Result.andThen_ok];rw[<-Array.forIn_toList];exact(congrArg (λr=>r.andThen λa w'=>Sem.run Tryd.prog (pure ()) w') h1:_)
   ·refine b0C (n:=9999) λx hx'=>?_
    have key:∀ {fs:List Field} {n:Nat} {xs:List D},FOk fs n xs->∀x∈xs,Instr.sameBits 9999 (I3 x) (I3 x)=true:=by
     intro fs
     induction fs with
     | nil =>
      intro n xs h x hx;cases xs with
      | nil=>cases hx
      | cons y ys=>exact(show False from h).elim
     | cons f fs ih =>
      intro n xs h x hx;cases xs with
      | nil=>cases hx
      | cons y xs =>
       obtain⟨h1,h2,h3,h4,h5⟩:=h
       rcases c2C.1 hx with rfl|hx
       ·obtain⟨d,hd⟩:=a3q h2 h4 h4;exact hd.bits _
       ·exact ih h5 x hx
    exact key hfx x hx'
   ·rw[hu] at hd;injection hd with hd;subst hd;exact .inr rfl
end
section
variable {I:Nat->Nat->Prop} {w:World} {g:Nat->Value}
theorem a6K:∀ {xs:List V} {us:List Value} {ds:List D},f9 I w g us xs->a1Q xs=some ds->s8 I w us ds
 | [],us,ds,h,hd=>by
  rw[a1Q] at hd;injection hd with hd;subst hd;rw[h.unnil];exact .nil I w
 | x::l,us,ds,h,hd=>by
  obtain⟨u,us,rfl,h1,h2⟩:=h.uncons;cases x with
  | d x =>
   rw[a1Q] at hd
   split at hd
   ·rename_i ys hys;injection hd with hd;subst hd;cases h1 with
    | d h1=>exact .cons h1 (a6K h2 hys)
   ·cases hd
  | _=>simp[a1Q] at hd
end
end
end Go.Proofs.YtlofmibkljoapaaDoor.Vm
end
