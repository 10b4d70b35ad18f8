/- Part 1 of the proof. Conditions: none. -/
import Derived.Test.YtdjnoafijjepcaaGreatChecked
import Derived.WalkKit
import Derived.Lib.Hide
import Derived.Deep.Draws
import Derived.Laws.Rows
import Derived.Maps.AppendAt
import Derived.Deep.AppendLies
import Derived.RegionTactic
import Derived.OwnWalk
import Derived.WalkSpells
import Derived.Laws.Tables
import Derived.Laws.CopyRow
import Derived.OrdersIn
import Derived.Laws.Slices
import Derived.Laws.StructEq
import Derived.Maps.Keyed
import Derived.Test.YtdjnoafijjepcaaGreatT0
set_option linter.all false
set_option linter.unusedVariables false
set_option linter.unusedSimpArgs false
section
namespace Go.Proofs.YtdjnoafijjepcaaGreat.Vm
open Go.RowKit
set_option maxRecDepth 100000
set_option maxHeartbeats 4000000
inductive TK where
 | int (k:IntKind)
 | bool
 | str
 | slice
 | struct
 | array
 | map
 | ptr
 | other
structure TI where
 kind:TK:=.other
 agg:Bool:=false
 sz:Nat:=1
 zero:List Value:=[]
 flds:List (Nat×Nat):=[]
 fty:List Nat:=[]
 elem:Option Nat:=none
 key:Option Nat:=none
 val:Option Nat:=none
 alen:Nat:=0
def b3E:Option TypeDesc->Option Bool
 | some (.struct _)=>some true
 | some (.array _ _)=>some true
 | some _=>some false
 | none=>none
def b59 (P:Program):Option TypeDesc->Option (List (Nat×Option Nat)×List Nat)
 | some (.struct fs)=>some (fs.toList.map (λf=>(f.offset,(P.info? f.type).map (·.size))),fs.toList.map (·.type))
 | _=>none
def a2h (P:Program) (t:Nat) (i:TI):Prop:=match i.kind with
 | .int k=>P.underlying t=some (.int k)
 | .bool=>P.underlying t=some .bool
 | .str=>P.underlying t=some .string
 | .slice=>P.underlying t=i.elem.map .slice/\i.elem.isSome=true
 | .ptr=>P.underlying t=i.val.map .pointer/\i.val.isSome=true
 | .array=>P.underlying t=i.val.map (.array i.alen)/\i.val.isSome=true
 | .map=>P.underlying t=(i.key.bind λk=>i.val.map λe=>.map k e)/\i.key.isSome=true/\i.val.isSome=true
 | .struct=>b59 P (P.underlying t)=some (i.flds.map (λx=>(x.1,some x.2)),i.fty)
 | _=>True
def c0J:Value->Bool
 | .agg _=>true
 | _=>false
structure TyOk (P:Program) (t:Nat) (i:TI):Prop where
 info:(P.info? t).map (λx=>(x.size,x.zero.map Value.cells))=some (i.sz,some i.zero.toArray)
 len:i.zero.length=i.sz
 zag:((P.info? t).bind (·.zero)).map c0J=some i.agg
 bytes:((P.info? t).map λx=>decide (x.bytes<=1024))=some true
 agg:b3E (P.underlying t)=some i.agg
 under:a2h P t i
 elem:(match i.kind with|.slice=>true|_=>i.elem.isNone)=true
 flds:(match i.kind with|.struct=>true|_=>i.flds.isEmpty)=true
def ty (n:Nat):TI:=match Nat.blt n 82 with|true=>(match Nat.blt n 32 with|true=>(match Nat.blt n 17 with|true=>(match Nat.blt n 7 with|true=>(match Nat.blt n 2 with|true=>(match Nat.blt n 1 with|true=>{ kind:=.other }|false=>{ sz:=1,zero:=[.nilFunc] })|false=>(match Nat.blt n 4 with|true=>{ kind:=.int .i64,sz:=1,zero:=[.int .i64 0] }|false=>(match Nat.blt n 5 with|true=>{ kind:=.bool,sz:=1,zero:=[.bool false] }|false=>{ kind:=.int .u8,sz:=1,zero:=[.int .u8 0] })))|false=>(match Nat.blt n 13 with|true=>(match Nat.blt n 9 with|true=>{ kind:=.struct,agg:=true,sz:=4,zero:=[.int .i64 0,.int .i64 0,.bool false,.int .u8 0],flds:=[(0,1),(1,1),(2,1),(3,1)],fty:=[2,3,4,6] }|false=>(match Nat.blt n 12 with|true=>{ kind:=.str,sz:=1,zero:=[.string ⟨#[]⟩] }|false=>{ kind:=.int .u64,sz:=1,zero:=[.int .u64 0] }))|false=>(match Nat.blt n 15 with|true=>{ kind:=.struct,agg:=true,sz:=2,zero:=[.string ⟨#[]⟩,.int .u64 0],flds:=[(0,1),(1,1)],fty:=[9,12] }|false=>(match Nat.blt n 16 with|true=>{ kind:=.ptr,sz:=1,zero:=[.pointer none],val:=some 167 }|false=>{ kind:=.ptr,sz:=1,zero:=[.pointer none],val:=some 170 }))))|false=>(match Nat.blt n 24 with|true=>(match Nat.blt n 21 with|true=>(match Nat.blt n 18 with|true=>{ kind:=.ptr,sz:=1,zero:=[.pointer none],val:=some 179 }|false=>(match Nat.blt n 20 with|true=>{ kind:=.struct,agg:=true,sz:=1,zero:=[.pointer none],flds:=[(0,1)],fty:=[17] }|false=>{ sz:=1,zero:=[.nilIface] }))|false=>(match Nat.blt n 22 with|true=>{ kind:=.int .i32,sz:=1,zero:=[.int .i32 0] }|false=>(match Nat.blt n 23 with|true=>{ kind:=.slice,sz:=1,zero:=[.slice none 0 0],elem:=some 5 }|false=>{ sz:=1,zero:=[.nilFunc] })))|false=>(match Nat.blt n 28 with|true=>(match Nat.blt n 25 with|true=>{ kind:=.int .u8,sz:=1,zero:=[.int .u8 0] }|false=>(match Nat.blt n 26 with|true=>{ kind:=.slice,sz:=1,zero:=[.slice none 0 0],elem:=some 27 }|false=>{ kind:=.struct,agg:=true,sz:=4,zero:=[.int .u8 0,.string ⟨#[]⟩,.int .i64 0,.slice none 0 0],flds:=[(0,1),(1,1),(2,1),(3,1)],fty:=[24,9,3,25] }))|false=>(match Nat.blt n 29 with|true=>{ kind:=.slice,sz:=1,zero:=[.slice none 0 0],elem:=some 30 }|false=>(match Nat.blt n 31 with|true=>{ kind:=.struct,agg:=true,sz:=10,zero:=[.int .u8 0,.string ⟨#[]⟩,.string ⟨#[]⟩,.int .i64 0,.bool false,.int .u8 0,.string ⟨#[]⟩,.int .i64 0,.slice none 0 0,.slice none 0 0],flds:=[(0,1),(1,1),(2,1),(3,1),(4,1),(5,4),(9,1)],fty:=[24,9,9,2,4,27,28] }|false=>{ kind:=.slice,sz:=1,zero:=[.slice none 0 0],elem:=some 3 })))))|false=>(match Nat.blt n 51 with|true=>(match Nat.blt n 43 with|true=>(match Nat.blt n 40 with|true=>(match Nat.blt n 33 with|true=>{ kind:=.int .u8,sz:=1,zero:=[.int .u8 0] }|false=>(match Nat.blt n 34 with|true=>{ kind:=.other }|false=>{ sz:=1,zero:=[.nilFunc] }))|false=>(match Nat.blt n 41 with|true=>{ kind:=.slice,sz:=1,zero:=[.slice none 0 0],elem:=some 52 }|false=>(match Nat.blt n 42 with|true=>{ kind:=.other }|false=>{ sz:=1,zero:=[.nilFunc] })))|false=>(match Nat.blt n 46 with|true=>(match Nat.blt n 44 with|true=>{ kind:=.ptr,sz:=1,zero:=[.pointer none],val:=some 47 }|false=>(match Nat.blt n 45 with|true=>{ kind:=.ptr,sz:=1,zero:=[.pointer none],val:=some 65 }|false=>{ sz:=1,zero:=[.nilFunc] }))|false=>(match Nat.blt n 48 with|true=>{ kind:=.struct,agg:=true,sz:=3,zero:=[.pointer none,.int .u8 0,.int .i64 0],flds:=[(0,1),(1,1),(2,1)],fty:=[44,32,3] }|false=>(match Nat.blt n 50 with|true=>{ kind:=.struct,agg:=true,sz:=11,zero:=[.int .u8 0,.string ⟨#[]⟩,.string ⟨#[]⟩,.int .i64 0,.bool false,.int .u8 0,.string ⟨#[]⟩,.int .i64 0,.slice none 0 0,.slice none 0 0,.slice none 0 0],flds:=[(0,10),(10,1)],fty:=[30,31] }|false=>{ sz:=1,zero:=[.nilFunc] }))))|false=>(match Nat.blt n 66 with|true=>(match Nat.blt n 61 with|true=>(match Nat.blt n 53 with|true=>{ kind:=.struct,agg:=true,sz:=4,zero:=[.int .u8 0,.string ⟨#[]⟩,.int .i64 0,.int .i64 0],flds:=[(0,1),(1,1),(2,1),(3,1)],fty:=[5,9,2,3] }|false=>(match Nat.blt n 59 with|true=>{ sz:=1,zero:=[.nilFunc] }|false=>{ kind:=.struct,agg:=true,sz:=2,zero:=[.slice none 0 0,.int .i64 0],flds:=[(0,1),(1,1)],fty:=[22,3] }))|false=>(match Nat.blt n 62 with|true=>{ kind:=.other }|false=>(match Nat.blt n 64 with|true=>{ sz:=1,zero:=[.nilFunc] }|false=>{ kind:=.struct,agg:=true,sz:=2,zero:=[.slice none 0 0,.int .i64 0],flds:=[(0,1),(1,1)],fty:=[40,3] })))|false=>(match Nat.blt n 75 with|true=>(match Nat.blt n 73 with|true=>{ sz:=1,zero:=[.nilFunc] }|false=>(match Nat.blt n 74 with|true=>{ kind:=.array,agg:=true,sz:=2,zero:=[.string ⟨#[]⟩,.string ⟨#[]⟩],val:=some 9,alen:=2 }|false=>{ sz:=1,zero:=[.nilFunc] }))|false=>(match Nat.blt n 77 with|true=>{ kind:=.struct,agg:=true,sz:=4,zero:=[.bool false,.bool false,.int .i64 0,.int .i64 0],flds:=[(0,1),(1,1),(2,1),(3,1)],fty:=[4,4,3,3] }|false=>(match Nat.blt n 78 with|true=>{ kind:=.other }|false=>{ sz:=1,zero:=[.nilFunc] }))))))|false=>(match Nat.blt n 122 with|true=>(match Nat.blt n 102 with|true=>(match Nat.blt n 91 with|true=>(match Nat.blt n 86 with|true=>(match Nat.blt n 83 with|true=>{ kind:=.slice,sz:=1,zero:=[.slice none 0 0],elem:=some 9 }|false=>{ sz:=1,zero:=[.nilFunc] })|false=>(match Nat.blt n 87 with|true=>{ kind:=.ptr,sz:=1,zero:=[.pointer none],val:=some 60 }|false=>(match Nat.blt n 90 with|true=>{ sz:=1,zero:=[.nilFunc] }|false=>{ kind:=.other })))|false=>(match Nat.blt n 97 with|true=>(match Nat.blt n 92 with|true=>{ sz:=1,zero:=[.nilFunc] }|false=>(match Nat.blt n 93 with|true=>{ kind:=.slice,sz:=1,zero:=[.slice none 0 0],elem:=some 98 }|false=>{ sz:=1,zero:=[.nilFunc] }))|false=>(match Nat.blt n 99 with|true=>{ kind:=.struct,agg:=true,sz:=7,zero:=[.string ⟨#[]⟩,.bool false,.int .u8 0,.string ⟨#[]⟩,.int .i64 0,.slice none 0 0,.int .i64 0],flds:=[(0,1),(1,1),(2,4),(6,1)],fty:=[9,4,27,3] }|false=>(match Nat.blt n 100 with|true=>{ kind:=.slice,sz:=1,zero:=[.slice none 0 0],elem:=some 49 }|false=>{ sz:=1,zero:=[.nilFunc] }))))|false=>(match Nat.blt n 114 with|true=>(match Nat.blt n 109 with|true=>(match Nat.blt n 103 with|true=>{ kind:=.other }|false=>(match Nat.blt n 108 with|true=>{ sz:=1,zero:=[.nilFunc] }|false=>{ kind:=.other }))|false=>(match Nat.blt n 110 with|true=>{ sz:=1,zero:=[.nilFunc] }|false=>(match Nat.blt n 111 with|true=>{ kind:=.other }|false=>{ sz:=1,zero:=[.nilFunc] })))|false=>(match Nat.blt n 119 with|true=>(match Nat.blt n 116 with|true=>{ kind:=.map,sz:=1,zero:=[.map none],key:=some 3,val:=some 4 }|false=>(match Nat.blt n 118 with|true=>{ sz:=1,zero:=[.nilFunc] }|false=>{ kind:=.other }))|false=>(match Nat.blt n 120 with|true=>{ sz:=1,zero:=[.nilFunc] }|false=>(match Nat.blt n 121 with|true=>{ kind:=.slice,sz:=1,zero:=[.slice none 0 0],elem:=some 124 }|false=>{ kind:=.other })))))|false=>(match Nat.blt n 161 with|true=>(match Nat.blt n 138 with|true=>(match Nat.blt n 127 with|true=>(match Nat.blt n 123 with|true=>{ sz:=1,zero:=[.nilFunc] }|false=>(match Nat.blt n 125 with|true=>{ kind:=.struct,agg:=true,sz:=5,zero:=[.string ⟨#[]⟩,.int .u8 0,.string ⟨#[]⟩,.int .i64 0,.slice none 0 0],flds:=[(0,1),(1,4)],fty:=[9,27] }|false=>{ sz:=1,zero:=[.nilFunc] }))|false=>(match Nat.blt n 129 with|true=>{ kind:=.int .u64,sz:=1,zero:=[.int .u64 0] }|false=>(match Nat.blt n 137 with|true=>{ sz:=1,zero:=[.nilFunc] }|false=>{ kind:=.other })))|false=>(match Nat.blt n 141 with|true=>(match Nat.blt n 139 with|true=>{ sz:=1,zero:=[.nilFunc] }|false=>(match Nat.blt n 140 with|true=>{ kind:=.other }|false=>{ kind:=.ptr,sz:=1,zero:=[.pointer none],val:=some 142 }))|false=>(match Nat.blt n 143 with|true=>{ kind:=.struct,agg:=true,sz:=3,zero:=[.pointer none,.int .u8 0,.int .i64 0],flds:=[(0,1),(1,1),(2,1)],fty:=[44,32,3] }|false=>(match Nat.blt n 159 with|true=>{ sz:=1,zero:=[.nilFunc] }|false=>{ kind:=.struct,agg:=true,sz:=13,zero:=[.string ⟨#[]⟩,.int .i64 0,.int .u8 0,.string ⟨#[]⟩,.string ⟨#[]⟩,.int .i64 0,.bool false,.int .u8 0,.string ⟨#[]⟩,.int .i64 0,.slice none 0 0,.slice none 0 0,.slice none 0 0],flds:=[(0,1),(1,1),(2,11)],fty:=[9,3,49] }))))|false=>(match Nat.blt n 172 with|true=>(match Nat.blt n 168 with|true=>(match Nat.blt n 162 with|true=>{ kind:=.slice,sz:=1,zero:=[.slice none 0 0],elem:=some 160 }|false=>(match Nat.blt n 166 with|true=>{ sz:=1,zero:=[.nilFunc] }|false=>{ kind:=.struct,agg:=true,sz:=4,zero:=[.pointer none,.pointer none,.pointer none,.string ⟨#[]⟩],flds:=[(0,1),(1,1),(2,1),(3,1)],fty:=[17,17,17,9] }))|false=>(match Nat.blt n 169 with|true=>{ kind:=.array,agg:=true,sz:=0,zero:=[],val:=some 16,alen:=0 }|false=>(match Nat.blt n 171 with|true=>{ kind:=.struct,agg:=true,sz:=0,zero:=[],flds:=[(0,0)],fty:=[168] }|false=>{ kind:=.int .u32,sz:=1,zero:=[.int .u32 0] })))|false=>(match Nat.blt n 176 with|true=>(match Nat.blt n 174 with|true=>{ kind:=.int .u8,sz:=1,zero:=[.int .u8 0] }|false=>(match Nat.blt n 175 with|true=>{ sz:=1,zero:=[.nilFunc] }|false=>{ kind:=.ptr,sz:=1,zero:=[.pointer none],val:=some 5 }))|false=>(match Nat.blt n 178 with|true=>{ kind:=.int .i32,sz:=1,zero:=[.int .i32 0] }|false=>(match Nat.blt n 180 with|true=>{ kind:=.struct,agg:=true,sz:=11,zero:=[.int .u64 0,.int .u64 0,.int .u32 0,.int .u8 0,.int .u8 0,.int .u8 0,.int .u8 0,.nilFunc,.pointer none,.int .i32 0,.int .i32 0],flds:=[(0,1),(1,1),(2,1),(3,1),(4,1),(5,1),(6,1),(7,1),(8,1),(9,1),(10,1)],fty:=[12,12,171,172,5,5,173,174,175,176,177] }|false=>{ sz:=1,zero:=[.pointer none] }))))))
def c7r:List Nat:=[52,76]
def b5A (P:Program) (t:Nat):Bool:=(!P.stoodInHeld t && !P.eqGuardType P.depth t) && (match P.underlying t with|some (.struct fs)=>fs.toList.all (λf=>f.name != "_")|_=>false)
theorem b7a:∀t∈c7r,b5A Tryz.prog t=true:=d5E.2 ⟨by kernel_rfl,d5E.2 ⟨by kernel_rfl,(λ_ h=>by cases h)⟩⟩
def c0K:List Nat:=[1,2,3,4,5,6,7,8,9,10,11,12,13,14,15,16,17,18,19,20,21,22,23,24,25,26,27,28,29,30,31,32,34,35,36,37,38,39,40,42,43,44,45,46,47,48,49,50,51,52,53,54,55,56,57,58,59,60,62,63,64,65,66,67,68,69,70,71,72,73,74,75,76,78,79,80,81,82,83,84,85,86,87,88,89,91,92,93,94,95,96,97,98,99,100,101,103,104,105,106,107,109,111,112,113,114,115,116,117,119,120,122,123,124,125,126,127,128,129,130,131,132,133,134,135,136,138,140,141,142,143,144,145,146,147,148,149,150,151,152,153,154,155,156,157,158,159,160,161,162,163,164,165,166,167,168,169,170,171,172,173,174,175,176,177,178,179,180]
def j9 (t:Nat):Bool:=c0K.contains t
def c7W:List (String×IntKind×List Int):=[]
def tyL (P:Program) (t:Nat) (i:TI):Option TypeDesc×Option (List (Nat×Option Nat)×List Nat)×Bool:=match i.kind with
 | .slice=>(P.underlying t,none,i.elem.isSome)
 | .ptr|.array=>(P.underlying t,none,i.val.isSome)
 | .map=>(P.underlying t,none,i.key.isSome && i.val.isSome)
 | .struct=>(none,b59 P (P.underlying t),true)
 | .other=>(none,none,true)
 | _=>(P.underlying t,none,true)
def tyR (i:TI):Option TypeDesc×Option (List (Nat×Option Nat)×List Nat)×Bool:=match i.kind with
 | .int k=>(some (.int k),none,true)
 | .bool=>(some .bool,none,true)
 | .str=>(some .string,none,true)
 | .slice=>(i.elem.map .slice,none,true)
 | .ptr=>(i.val.map .pointer,none,true)
 | .array=>(i.val.map (.array i.alen),none,true)
 | .map=>(i.key.bind λk=>i.val.map λe=>.map k e,none,true)
 | .struct=>(none,some (i.flds.map (λx=>(x.1,some x.2)),i.fty),true)
 | .other=>(none,none,true)
def c0L (P:Program) (t:Nat) (i:TI):=((P.info? t).map (λx=>(x.size,x.zero.map Value.cells)),i.zero.length,((P.info? t).bind (·.zero)).map c0J,(P.info? t).map (λx=>decide (x.bytes<=1024)),b3E (P.underlying t),tyL P t i,(match i.kind with|.slice=>true|_=>i.elem.isNone),(match i.kind with|.struct=>true|_=>i.flds.isEmpty))
def c0M (i:TI):Option (Nat×Option (Array Value))×Nat×Option Bool×Option Bool×Option Bool×(Option TypeDesc×Option (List (Nat×Option Nat)×List Nat)×Bool)×Bool×Bool:=(some (i.sz,some i.zero.toArray),i.sz,some i.agg,some true,some i.agg,tyR i,true,true)
theorem TyOk.of {P:Program} {t:Nat} {i:TI} (h:c0L P t i=c0M i):TyOk P t i:=by
 unfold c0L c0M at h;simp only[Prod.mk.injEq] at h;obtain⟨h1,h2,h3,h4,h5,h6,h7,h8⟩:=h;refine⟨h1,h2,h3,h4,h5,?_,h7,h8⟩;unfold tyL tyR at h6;unfold a2h;cases hk:i.kind <;> simp only[hk,Prod.mk.injEq,d3N,and_true,true_and] at h6 ⊢ <;> first|exact h6|trivial
theorem d0z:c0K.map (λt=>c0L Tryz.prog t (ty t))=c0K.map (λt=>c0M (ty t)):=by kernel_rfl
theorem b7b {α β:Type} {f g:α->β}:∀ {l:List α},l.map f=l.map g->∀x∈l,f x=g x
 | a::l,h,x,hx=>by
  rw[d4a,d4a] at h;injection h with h1 h2;cases hx with
  | head=>exact h1
  | tail _ hx=>exact b7b h2 x hx
theorem a5o (t:Nat) (h:j9 t=true):TyOk Tryz.prog t (ty t):=TyOk.of (b7b d0z t (by unfold j9 at h;simpa using h))
inductive D where
 | sc (v:Value)
 | sl (sz:Nat) (rows:List (List D))
inductive R where
 | one (x:D)
 | ag (xs:List D)
inductive V where
 | d (x:D)
 | ag (cs:List V)
 | tu (vs:List V)
 | em
 | own (k:Nat)
 | ptr (k off:Nat)
 | cl (f:Nat) (ks:List Nat)
 | el (k:Nat) (i:Int) (sz off:Nat)
 | ro (cs:List D) (off:Nat)
 | mp (k:Nat)
 | bs (k n:Nat)
 | jk
inductive O where
 | box (cs:List V)
 | row (z:Bool) (e:Nat) (rows:List (List D))
 | mp (kt:Nat) (es:List (R×R))
 | kl (ks:List Nat)
 | it (P:World->Value->List Nat->Prop)
 | ob (T:Nat) (vs:List Value)
 | dead
structure S where
 t:List V
 o:List O
inductive X where
 | normal
 | exit (id:Nat)
 | ret
def b22 (N:S->Prop) (K:X->S->Prop):X->S->Prop
 | .normal,s=>N s
 | .exit i,s=>K (.exit i) s
 | .ret,s=>K .ret s
structure Ar where
 wrap:IntKind->Int->Int
 add:Int->Int->Int
 sub:Int->Int->Int
 mul:Int->Int->Int
 quo:Int->Int->Int
 rem:Int->Int->Int
 bits:BinOp->IntKind->Int->IntKind->Int->Option Int
 lt:Int->Int->Bool
 le:Int->Int->Bool
 eq:Int->Int->Bool
 nz:Int->Prop->Prop
 seq:List UInt8->List UInt8->Bool
 slt:List UInt8->List UInt8->Bool
 bytes:ByteArray->List UInt8
 cat:ByteArray->ByteArray->ByteArray
 fits:ByteArray->ByteArray->Prop->Prop
 slen:ByteArray->Int
 sget:ByteArray->Int->Option Int
 ssub:ByteArray->Int->Int->Option ByteArray
 txt:List (List D)->Option ByteArray
 byt:ByteArray->List (List D)
 nat:Int->Nat->Option Nat
 len:List (List D)->Int
 get:List (List D)->Int->Option (List D)
 sub2:List (List D)->Int->Int->Option (List (List D))
 app:List (List D)->List (List D)->List (List D)
 set:List (List D)->Int->List D->List (List D)
 room:List (List D)->List (List D)->Prop->Prop
 mlook:List (R×R)->R->Option R
 mput:List (R×R)->R->R->List (R×R)
 deq:List D->List D->Bool
 rep:Int->List D->(List (List D)->Prop)->Prop
 call:Nat->List R->(List R->Prop)->Prop
 calld:Nat->List V->List O->(V->Prop)->Prop
 callo:Nat->List V->S->(V->S->Prop)->Prop
 callx:Nat->List V->List Nat->S->(V->S->Prop)->Prop
 new:Nat->(Bool->Prop)->Prop
 lit:Nat->(Bool->Prop)->Prop
 keep:Nat->(List V->List O->Prop)->List V->S->Prop
 next:(S->Prop)->S->Prop
 ext:Op->Option Nat->S->(S->Prop)->Prop
 reg:Array Oper->S->(S->Prop)->Prop
 loop:Code->(S->(X->S->Prop)->Prop)->S->(X->S->Prop)->Prop
def y8:List V->Nat->V
 | [],_=>.jk
 | x::_,0=>x
 | _::l,n+1=>y8 l n
def H5:List V->Nat->V->List V
 | [],_,_=>[]
 | _::l,0,v=>v::l
 | x::l,n+1,v=>x::H5 l n v
def C1:List O->Nat->O
 | [],_=>.dead
 | x::_,0=>x
 | _::l,n+1=>C1 l n
def K8:List O->Nat->O->List O
 | [],_,_=>[]
 | _::l,0,v=>v::l
 | x::l,n+1,v=>x::K8 l n v
def B4:List O->O->List O
 | [],v=>[v]
 | x::l,v=>x::B4 l v
def w8:List O->Nat
 | []=>0
 | _::l=>w8 l+1
def Z0 {α:Type}:Nat->List α->List α
 | 0,l=>l
 | _+1,[]=>[]
 | n+1,_::l=>Z0 n l
def Q9 {α:Type}:Nat->List α->Option (List α)
 | 0,_=>some []
 | _+1,[]=>none
 | n+1,x::l=>match Q9 n l with|some t=>some (x::t)|none=>none
def G7 {α:Type}:List α->Nat
 | []=>0
 | _::l=>G7 l+1
def Y5:Nat->Nat->Bool
 | 0,0=>true
 | n+1,m+1=>Y5 n m
 | _,_=>false
def splice {α:Type}:List α->Nat->List α->Option (List α)
 | l,0,[]=>some l
 | _::l,0,y::ys=>match splice l 0 ys with|some t=>some (y::t)|none=>none
 | x::l,n+1,ys=>match splice l n ys with|some t=>some (x::t)|none=>none
 | [],_+1,_=>none
 | [],0,_::_=>none
def b8V:V->Bool
 | .d _=>true
 | .em=>true
 | .own _=>true
 | .ptr _ _=>true
 | .cl _ _=>true
 | .el _ _ _ _=>true
 | .ro _ _=>true
 | .mp _=>true
 | .bs _ _=>true
 | _=>false
def a5p:List V->Bool
 | []=>true
 | x::l=>match b8V x with|true=>a5p l|false=>false
def a2i:V->Option (List V)
 | .ag l=>match a5p l with|true=>some l|false=>none
 | .jk=>none
 | .tu _=>none
 | x=>some [x]
def C0:List D->List V
 | []=>[]
 | x::l=>.d x::C0 l
def c0N:R->V
 | .one x=>.d x
 | .ag xs=>.ag (C0 xs)
def b3F:List R->List V
 | []=>[]
 | x::l=>c0N x::b3F l
def b8W:List R->V
 | [r]=>c0N r
 | rs=>.tu (b3F rs)
def toD (os:List O):V->Option D
 | .d x=>some x
 | .cl f []=>some (.sc (.func (.func f) #[] #[]))
 | .em=>some (.sl 0 [])
 | .own k=>match C1 os k with|.row true e rows=>some (.sl (ty e).sz rows)|_=>none
 | _=>none
def a5D (os:List O):List V->Option (List D)
 | []=>some []
 | x::l=>match toD os x with
  | some y=>match a5D os l with|some ys=>some (y::ys)|none=>none
  | none=>none
def toR (os:List O):V->Option R
 | .ag l=>match a5D os l with|some ys=>some (.ag ys)|none=>none
 | x=>match toD os x with|some y=>some (.one y)|none=>none
def b0W (os:List O):List V->Option (List R)
 | []=>some []
 | x::l=>match toR os x with
  | some y=>match b0W os l with|some ys=>some (y::ys)|none=>none
  | none=>none
def a8W (k:Nat):V->V
 | .own j=>match Y5 j k with|true=>.jk|false=>.own j
 | .el j i sz off=>match Y5 j k with|true=>.jk|false=>.el j i sz off
 | .ag _=>.jk
 | .tu _=>.jk
 | x=>x
def E6 (k:Nat):List V->List V
 | []=>[]
 | x::l=>a8W k x::E6 k l
def J2 (k:Nat):V->V
 | .ag cs=>.ag (E6 k cs)
 | .tu []=>.tu []
 | .tu _=>.jk
 | x=>a8W k x
def I8 (k:Nat):List V->List V
 | []=>[]
 | x::l=>J2 k x::I8 k l
def E7 (k:Nat):List O->List O
 | []=>[]
 | .box cs::l=>.box (E6 k cs)::E7 k l
 | .kl ks::l=>.kl (k::ks)::E7 k l
 | x::l=>x::E7 k l
def a7m:Value->V
 | .slice none 0 0=>.em
 | .agg _=>.jk
 | .tuple _=>.jk
 | v=>.d (.sc v)
def K9:List Value->List V
 | []=>[]
 | x::l=>a7m x::K9 l
def S.get (s:S):Operand->V
 | .tmp i=>y8 s.t i
 | .const v=>a7m v
 | .func f=>.cl f []
 | .global _=>.jk
def S.put (s:S) (d:Option Nat) (v:V):S:=match d with
 | some i=>⟨H5 s.t i v,s.o⟩
 | none=>s
def S.obj (s:S) (o:O):S:=⟨s.t,B4 s.o o⟩
def S.fresh (m:Bool) (s:S) (o:O):S:=match m with
 | true=>s.obj o
 | false=>⟨I8 (w8 s.o) s.t,B4 (E7 (w8 s.o) s.o) o⟩
def vb (b:Bool):V:=.d (.sc (.bool b))
def vi (k:IntKind) (n:Int):V:=.d (.sc (.int k n))
def vs (s:ByteArray):V:=.d (.sc (.string s))
def keq:IntKind->IntKind->Bool
 | .i8,.i8=>true
 | .i16,.i16=>true
 | .i32,.i32=>true
 | .i64,.i64=>true
 | .u8,.u8=>true
 | .u16,.u16=>true
 | .u32,.u32=>true
 | .u64,.u64=>true
 | _,_=>false
def a3C:Bool->Bool
 | true=>false
 | false=>true
def bEq:Bool->Bool->Bool
 | true,true=>true
 | false,false=>true
 | _,_=>false
def orB:Bool->Bool->Bool
 | true,_=>true
 | false,b=>b
def b5B (a:Ar) (k:IntKind) (x y:Int) (K:V->Prop):BinOp->Prop
 | .add=>K (vi k (a.wrap k (a.add x y)))
 | .sub=>K (vi k (a.wrap k (a.sub x y)))
 | .mul=>K (vi k (a.wrap k (a.mul x y)))
 | .quo=>a.nz y (K (vi k (a.wrap k (a.quo x y))))
 | .rem=>a.nz y (K (vi k (a.rem x y)))
 | .eql=>K (vb (a.eq x y))
 | .neq=>K (vb (a3C (a.eq x y)))
 | .lss=>K (vb (a.lt x y))
 | .leq=>K (vb (a.le x y))
 | .gtr=>K (vb (a.lt y x))
 | .geq=>K (vb (a.le y x))
 | _=>False
def b5C (a:Ar) (x y:ByteArray) (K:V->Prop):BinOp->Prop
 | .add=>a.fits x y (K (vs (a.cat x y)))
 | .eql=>K (vb (a.seq (a.bytes x) (a.bytes y)))
 | .neq=>K (vb (a3C (a.seq (a.bytes x) (a.bytes y))))
 | .lss=>K (vb (a.slt (a.bytes x) (a.bytes y)))
 | .gtr=>K (vb (a3C (orB (a.slt (a.bytes x) (a.bytes y)) (a.seq (a.bytes x) (a.bytes y)))))
 | .leq=>K (vb (orB (a.slt (a.bytes x) (a.bytes y)) (a.seq (a.bytes x) (a.bytes y))))
 | .geq=>K (vb (a3C (a.slt (a.bytes x) (a.bytes y))))
 | _=>False
def d00:BinOp->Bool
 | .and=>true
 | .or=>true
 | .xor=>true
 | .andNot=>true
 | .shl=>true
 | .shr=>true
 | _=>false
def d01 (k:IntKind) (K:V->Prop):Option Int->Prop
 | some n=>K (vi k n)
 | none=>False
def Z1 (op:BinOp) (k:IntKind) (x:Int) (k':IntKind) (y:Int):Option Int:=match op with
 | .shl=>match y with|.ofNat n=>some (k.wrap (x * 2 ^ (min n k.bits)))|.negSucc _=>none
 | .shr=>match y with|.ofNat n=>some (x.fdiv (2 ^ (min n k.bits)))|.negSucc _=>none
 | .and=>match keq k k' with|true=>some (k.wrap (BitVec.ofInt k.bits x &&& BitVec.ofInt k.bits y).toNat)|false=>none
 | .or=>match keq k k' with|true=>some (k.wrap (BitVec.ofInt k.bits x ||| BitVec.ofInt k.bits y).toNat)|false=>none
 | .xor=>match keq k k' with|true=>some (k.wrap (BitVec.ofInt k.bits x ^^^ BitVec.ofInt k.bits y).toNat)|false=>none
 | .andNot=>match keq k k' with|true=>some (k.wrap (BitVec.ofInt k.bits x &&& ~~~BitVec.ofInt k.bits y).toNat)|false=>none
 | _=>none
def a8X (a:Ar) (op:BinOp):Value->Value->(V->Prop)->Prop
 | .int k x,.int k' y,K=>match d00 op with
  | true=>d01 k K (a.bits op k x k' y)
  | false=>match keq k k' with|true=>b5B a k x y K op|false=>False
 | .string x,.string y,K=>b5C a x y K op
 | _,_,_=>False
def a4n (b:Bool) (K:V->Prop):BinOp->Prop
 | .eql=>K (vb b)
 | .neq=>K (vb (a3C b))
 | _=>False
def b23:V->Bool
 | .d (.sc (.pointer none))=>true
 | _=>false
def a15:TK->Bool
 | .slice=>true
 | _=>false
def a1x:TK->D->Bool
 | .int k,.sc (.int k' _)=>keq k k'
 | .str,.sc (.string _)=>true
 | .bool,.sc (.bool _)=>true
 | _,_=>false
def a0w:List Nat->List (Nat×Nat)->Nat->List D->Bool
 | [],[],_,[]=>true
 | u::us,(off,1)::fs,n,d::ds=>match Y5 off n with
  | true=>match a1x (ty u).kind d with|true=>a0w us fs (n+1) ds|false=>false
  | false=>false
 | _,_,_,_=>false
def b7c:Nat->Nat->Bool:=Nat.beq
def c0O:Int->Int->Bool
 | .ofNat m,.ofNat n=>b7c m n
 | .negSucc m,.negSucc n=>b7c m n
 | _,_=>false
def a87:List UInt8->List UInt8->Bool
 | [],[]=>true
 | x::l,y::m=>match b7c x.toNat y.toNat with|true=>a87 l m|false=>false
 | _,_=>false
def dEq:D->D->Bool
 | .sc (.int _ m),.sc (.int _ n)=>c0O m n
 | .sc (.string x),.sc (.string y)=>a87 x.data.toList y.data.toList
 | .sc (.bool x),.sc (.bool y)=>bEq x y
 | _,_=>false
def b5E:List D->List D->Bool
 | [],[]=>true
 | x::l,y::m=>match dEq x y with|true=>b5E l m|false=>false
 | _,_=>false
def b7d (t:Nat):List Nat->Bool
 | []=>false
 | u::l=>match Y5 u t with|true=>true|false=>b7d t l
def a4j (t:Nat):R->Bool
 | .one d=>a1x (ty t).kind d
 | .ag ds=>match (ty t).kind with|.struct=>(match b7d t c7r with|true=>a0w (ty t).fty (ty t).flds 0 ds|false=>false)|_=>false
def a3D:List V->Option (List D)
 | []=>some []
 | .d x::l=>match a3D l with|some ys=>some (x::ys)|none=>none
 | _=>none
def c0P (a:Ar) (op:BinOp) (t:Nat):V->V->(V->Prop)->Prop
 | .d (.sc x),.d (.sc y),K=>match (ty t).kind with
  | .ptr=>match x,y with
   | .pointer none,.pointer none=>a4n true K op
   | _,_=>False
  | .bool=>match x,y with
   | .bool b,.bool c=>a4n (bEq b c) K op
   | _,_=>False
  | _=>a8X a op x y K
 | .ptr _ _,y,K=>match (ty t).kind with
  | .ptr=>match b23 y with|true=>a4n false K op|false=>False
  | _=>False
 | x,.ptr _ _,K=>match (ty t).kind with
  | .ptr=>match b23 x with|true=>a4n false K op|false=>False
  | _=>False
 | .d (.sl _ rows),.em,K=>match a15 (ty t).kind with|true=>a.nz (a.len rows) (a4n false K op)|false=>False
 | .em,.em,K=>match a15 (ty t).kind with|true=>a4n true K op|false=>False
 | .ag xs,.ag ys,K=>match a3D xs,a3D ys with
  | some ds,some es=>match a4j t (.ag ds) with
   | true=>match a4j t (.ag es) with|true=>a4n (a.deq ds es) K op|false=>False
   | false=>False
  | _,_=>False
 | _,_,_=>False
def unV (a:Ar):UnOp->V->(V->Prop)->Prop
 | .not,.d (.sc (.bool b)),K=>K (vb (a3C b))
 | .neg,.d (.sc (.int k n)),K=>K (vi k (a.wrap k (a.sub 0 n)))
 | _,_,_=>False
def c7s:Value->Option UInt8
 | .int k n=>match keq k .u8 with|true=>some (UInt8.ofNat n.toNat)|false=>none
 | _=>none
def b3G:List D->Option UInt8
 | [.sc v]=>c7s v
 | _=>none
def a4o:List (List D)->Option (List UInt8)
 | []=>some []
 | r::l=>match b3G r with
  | some c=>match a4o l with|some t=>some (c::t)|none=>none
  | none=>none
def a4R (rows:List (List D)):Option ByteArray:=match a4o rows with|some l=>some ⟨⟨l⟩⟩|none=>none
def a8Y (s:ByteArray):List (List D):=s.data.toList.map λc=>[.sc (.int .u8 (c.toNat:Int))]
def c0Q (a:Ar) (K:V->Prop) (k:IntKind):V->Prop
 | .d (.sc (.int _ n))=>K (vi k (a.wrap k n))
 | _=>False
def c7X (K:V->Prop):Option ByteArray->Prop
 | some s=>K (vs s)
 | none=>False
def b3H:TK->Bool
 | .str=>true
 | _=>false
def c0R (a:Ar) (K:V->Prop) (b:Bool):V->Prop
 | .d (.sc (.string s))=>K (vs s)
 | .d (.sl _ rows)=>match b with|true=>c7X K (a.txt rows)|false=>False
 | .em=>match b with|true=>K (vs ⟨⟨[]⟩⟩)|false=>False
 | _=>False
def c0S (a:Ar) (K:V->Prop) (b:Bool):V->Prop
 | .d (.sc (.string s))=>match b with|true=>K (.d (.sl 1 (a.byt s)))|false=>False
 | _=>False
def b3I (a:Ar) (K:V->Prop) (k0 k:TK) (x:V):Prop:=match k with
 | .int j=>c0Q a K j x
 | .str=>c0R a K (a15 k0) x
 | .slice=>c0S a K (b3H k0) x
 | _=>False
def a3h:Bool->List V->Option V
 | true,l=>some (.ag l)
 | false,[x]=>some x
 | false,_=>none
def a1j (g:Operand->V) (place:List (Nat×Nat)):List (Nat×Operand)->List V->Option (List V)
 | [],l=>some l
 | (i,x)::ps,l=>match Q9 1 (Z0 i place) with
  | some [(off,sz)]=>match a2i (g x) with
   | some cs=>match Y5 (G7 cs) sz with
    | true=>match splice l off cs with
     | some l'=>a1j g place ps l'
     | none=>none
    | false=>none
   | none=>none
  | _=>none
def a0R (sz:Nat):Nat->Nat->List (Nat×Nat)
 | 0,_=>[]
 | n+1,off=>(off,sz)::a0R sz n (off+sz)
def a5u (z:List V):Nat->List V->List V
 | 0,acc=>acc
 | n+1,acc=>a5u z n (z++acc)
def a7n (sz:Nat):Nat->List D->Option (List (List D))
 | 0,[]=>some []
 | 0,_::_=>none
 | n+1,l=>match Q9 sz l with
  | some r=>match a7n sz n (Z0 sz l) with
   | some rs=>some (r::rs)
   | none=>none
  | none=>none
def c7Y (a:Ar) (os:List O) (K:V->Prop):V->Prop
 | .d (.sl _ rows)=>K (vi .i64 (a.len rows))
 | .em=>K (vi .i64 0)
 | .own k=>match C1 os k with|.row _ _ rows=>K (vi .i64 (a.len rows))|_=>False
 | .bs _ n=>K (vi .i64 (.ofNat n))
 | _=>False
def c7Z (a:Ar) (K:V->Prop):V->Prop
 | .d (.sc (.string x))=>K (vi .i64 (a.slen x))
 | _=>False
def c0T (a:Ar) (os:List O) (K:V->Prop) (k:TK) (x:V):Prop:=match k with
 | .slice=>c7Y a os K x
 | .str=>c7Z a K x
 | _=>False
def W8 (os:List O):V->Option (Option Nat×List (List D))
 | .d (.sl sz rows)=>some (some sz,rows)
 | .em=>some (none,[])
 | .own k=>match C1 os k with|.row true e rows=>some (some (ty e).sz,rows)|_=>none
 | _=>none
def c4N (sz:Nat):Option Nat->Bool
 | none=>true
 | some n=>Y5 n sz
def a80 (os:List O):V->Option (Nat×Nat×List (List D))
 | .own k=>match C1 os k with|.row false e rows=>some (k,e,rows)|_=>none
 | _=>none
def a0S (K:V->Prop) (o:Nat):V->Prop
 | .ptr k off=>K (.ptr k (off+o))
 | .el k i sz off=>K (.el k i sz (off+o))
 | .ro cs off=>K (.ro cs (off+o))
 | _=>False
def bsV:V->Option (Nat×Nat)
 | .bs k n=>some (k,n)
 | _=>none
def E1 (a:Ar) (os:List O) (K:V->Prop) (t:Nat) (x i:V):Prop:=match i with
  | .d (.sc (.int _ n))=>match (ty t).kind with
   | .array=>match (ty t).val with
    | some e=>match a.nat n (ty t).alen with
      | some j=>a0S K (j * (ty e).sz) x
      | none=>False
    | none=>False
   | _=>match (ty t).elem with
    | some e=>match bsV x with
     | some (k,m)=>match a.nat n m with|some j=>K (.ptr k (j * (ty e).sz))|none=>False
     | none=>match a80 os x with
       | some (k,e',rows)=>match Y5 e' e with
        | true=>match a.get rows n with|some _=>K (.el k n (ty e).sz 0)|none=>False
        | false=>False
       | none=>match W8 os x with
        | some (some sz,rows)=>match Y5 sz (ty e).sz with
          | true=>match a.get rows n with|some row=>K (.ro row 0)|none=>False
          | false=>False
        | _=>False
    | none=>False
  | _=>False
def L5 (a:Ar) (os:List O) (K:V->Prop) (t:Nat):V->Prop
 | .ptr k off=>match C1 os k with
  | .box cs=>match Q9 (ty t).sz (Z0 off cs) with
   | some l=>match a3h (ty t).agg l with|some x=>K x|none=>False
   | none=>False
  | _=>False
 | .ro cs off=>match Q9 (ty t).sz (Z0 off cs) with
  | some l=>match a3h (ty t).agg (C0 l) with|some x=>K x|none=>False
  | none=>False
 | .el k i sz off=>match C1 os k with
  | .row _ e rows=>match Y5 (ty e).sz sz with
   | true=>match a.get rows i with
    | some row=>match Q9 (ty t).sz (Z0 off row) with
     | some l=>match a3h (ty t).agg (C0 l) with|some x=>K x|none=>False
     | none=>False
    | none=>False
   | false=>False
  | _=>False
 | _=>False
def a0s (K:V->Prop) (t i:Nat) (x:V):Prop:=match Q9 1 (Z0 i (ty t).flds) with
 | some [(off,_+1)]=>match x with
  | .ptr k o=>K (.ptr k (o+off))
  | .ro cs o=>K (.ro cs (o+off))
  | .el k i sz o=>K (.el k i sz (o+off))
  | _=>False
 | _=>False
def b3J (K:V->Prop) (t i:Nat) (x:V):Prop:=match Q9 1 (Z0 i (ty t).fty),Q9 1 (Z0 i (ty t).flds),x with
 | some [u],some [(off,_)],.ag cs=>match Q9 (ty u).sz (Z0 off cs) with
  | some l=>match a3h (ty u).agg l with|some x=>K x|none=>False
  | none=>False
 | _,_,_=>False
def N3 (g:Operand->V):List Operand->List V
 | []=>[]
 | x::l=>g x::N3 g l
def b1n (a:Ar) (os:List O) (K:V->Prop) (f:Nat) (vs:List V):Prop:=match b0W os vs with
 | some rs=>a.call f rs (λq=>K (b8W q))
 | none=>a.calld f vs os K
def a0B (g:Operand->V):Option Operand->Option V
 | none=>none
 | some x=>some (g x)
def a6m (n:Int):Option V->Option Int
 | none=>some n
 | some (.d (.sc (.int _ n)))=>some n
 | _=>none
def a8Z (a:Ar) (os:List O) (K:V->Prop) (t:Nat) (x:V) (lo hi:Option V):Prop:=match a6m 0 lo with
 | some l=>match (ty t).kind with
  | .str=>match x with
   | .d (.sc (.string b))=>match a6m (a.slen b) hi with
    | some h=>match a.ssub b l h with|some c=>K (vs c)|none=>False
    | none=>False
   | _=>False
  | .slice=>match (ty t).elem with
   | some e=>match W8 os x with
    | some (sz,rows)=>match c4N (ty e).sz sz with
     | true=>match a6m (a.len rows) hi with
      | some h=>match a.sub2 rows l h with|some rs=>K (.d (.sl (ty e).sz rs))|none=>False
      | none=>False
     | false=>False
    | none=>False
   | none=>False
  | _=>False
 | none=>False
def a9a (a:Ar) (K:V->Prop) (t:Nat):V->V->Prop
 | .ag cs,.d (.sc (.int _ n))=>match (ty t).kind with
  | .array=>match (ty t).val with
   | some e=>match a.nat n (ty t).alen with
    | some j=>match Q9 (ty e).sz (Z0 (j * (ty e).sz) cs) with
     | some l=>match a3h (ty e).agg l with|some x=>K x|none=>False
     | none=>False
    | none=>False
   | none=>False
  | _=>False
 | .d (.sc (.string b)),.d (.sc (.int _ n))=>match (ty t).kind with
  | .str=>match a.sget b n with|some c=>K (vi .u8 c)|none=>False
  | _=>False
 | _,_=>False
def a3E (g:Operand->V) (K:V->Prop) (t:Nat) (ps:List (Nat×Operand)):Prop:=match (ty t).kind with
 | .struct=>match a1j g (ty t).flds ps (K9 (ty t).zero) with
  | some l=>K (.ag l)
  | none=>False
 | .array=>match (ty t).val with
  | some e=>match a1j g (a0R (ty e).sz (ty t).alen 0) ps (K9 (ty t).zero) with
   | some l=>K (.ag l)
   | none=>False
  | none=>False
 | _=>False
def J3 (g:Operand->V) (os:List O) (K:V->Prop) (t n:Nat) (ps:List (Nat×Operand)):Prop:=match (ty t).elem with
 | some e=>match n with
  | 0=>False
  | n+1=>match a1j g (a0R (ty e).sz (n+1) 0) ps (a5u (K9 (ty e).zero) (n+1) []) with
   | some l=>match a5D os l with
    | some ds=>match a7n (ty e).sz (n+1) ds with
     | some rows=>K (.d (.sl (ty e).sz rows))
     | none=>False
    | none=>False
   | none=>False
 | none=>False
def a4p (K:V->Prop) (i:Nat):V->Prop
 | .tu vs=>match Q9 1 (Z0 i vs) with|some [v]=>K v|_=>False
 | _=>False
def b3K (K:V->Prop) (x y:V):V->Prop
 | .d (.sc (.bool b))=>K (match b with|true=>x|false=>y)
 | _=>False
def b3L:List V->Option (List Nat)
 | []=>some []
 | .ptr k 0::l=>match b3L l with|some ks=>some (k::ks)|none=>none
 | _=>none
def rEq:R->R->Bool
 | .one x,.one y=>dEq x y
 | .ag xs,.ag ys=>b5E xs ys
 | _,_=>false
def a5q:List (R×R)->R->Option R
 | [],_=>none
 | (k,v)::l,r=>match rEq k r with|true=>some v|false=>a5q l r
def a2T:List (R×R)->R->R->List (R×R)
 | [],r,q=>[(r,q)]
 | (k,v)::l,r,q=>match rEq k r with|true=>(k,q)::l|false=>(k,v)::a2T l r q
def c4O (os:List O) (t:Nat) (x:V):Option R:=match toR os x with
 | some r=>match a4j t r with|true=>some r|false=>none
 | none=>none
def b24 (K:V->Prop) (ok b:Bool) (x:V):Prop:=match ok with|true=>K (.tu [x,vb b])|false=>K x
def b3M (K:V->Prop) (ok:Bool) (e:Nat):Prop:=match a3h (ty e).agg (K9 (ty e).zero) with
 | some z=>b24 K ok false z
 | none=>False
def b3N (a:Ar) (os:List O) (K:V->Prop) (t:Nat) (ok:Bool) (x i:V):Prop:=match (ty t).kind with
 | .map=>match (ty t).key,(ty t).val with
  | some kt,some e=>match c4O os kt i with
   | some r=>match x with
    | .mp k=>match C1 os k with
     | .mp kt' es=>match Y5 kt' kt with
      | true=>match a.mlook es r with
       | some q=>b24 K ok true (c0N q)
       | none=>b3M K ok e
      | false=>False
     | _=>False
    | .d (.sc (.map none))=>b3M K ok e
    | _=>False
   | none=>False
  | _,_=>False
 | _=>False
def b8X (a:Ar) (K:V->Prop) (mx:Bool):List V->Prop
 | [.d (.sc (.int k x)),.d (.sc (.int k' y))]=>match keq k k' with
  | true=>match mx with
   | true=>K (vi k (match a.lt x y with|true=>y|false=>x))
   | false=>K (vi k (match a.lt y x with|true=>y|false=>x))
  | false=>False
 | _=>False
def nnV (K:V->Prop):V->Prop
 | .ptr k off=>K (.ptr k off)
 | .cl f ks=>K (.cl f ks)
 | .el k i sz off=>K (.el k i sz off)
 | .ro cs off=>K (.ro cs off)
 | _=>False
def fnV:V->Option (Nat×List Nat)
 | .cl f ks=>some (f,ks)
 | .d (.sc (.func (.func f) ⟨[]⟩ ⟨[]⟩))=>some (f,[])
 | _=>none
def a9b:List Nat->List V
 | []=>[]
 | k::l=>.ptr k 0::a9b l
def a4k:List V->List V->List V
 | [],m=>m
 | x::l,m=>x::a4k l m
def b25 (a:Ar) (os:List O) (K:V->Prop) (x:V) (vs:List V):Prop:=match fnV x with
 | some (f,ks)=>b1n a os K f (a4k vs (a9b ks))
 | none=>False
def K4 (a:Ar) (g:Operand->V) (os:List O) (K:V->Prop):Op->Prop
 | .move x=>K (g x)
 | .assign x=>K (g x)
 | .pick c x y=>b3K K (g x) (g y) (g c)
 | .load t x=>L5 a os K t (g x)
 | .fieldAddr t x i=>a0s K t i (g x)
 | .field t x i=>b3J K t i (g x)
 | .indexAddr t x i=>E1 a os K t (g x) (g i)
 | .index t x i=>a9a a K t (g x) (g i)
 | .binOp op t x y _=>c0P a op t (g x) (g y) K
 | .unOp op _ x=>unV a op (g x) K
 | .convert t0 t x=>b3I a K (ty t0).kind (ty t).kind (g x)
 | .build t ps=>a3E g K t ps.toList
 | .buildSlice t n ps=>J3 g os K t n ps.toList
 | .extract x i=>a4p K i (g x)
 | .slice t x lo hi none=>a8Z a os K t (g x) (a0B g lo) (a0B g hi)
 | .call ⟨.builtin .len,⟨[x]⟩,⟨[t]⟩⟩=>c0T a os K (ty t).kind (g x)
 | .call ⟨.value (.func f),args,_⟩=>b1n a os K f (N3 g args.toList)
 | .lookup t x i ok=>b3N a os K t ok (g x) (g i)
 | .call ⟨.builtin .min,args,_⟩=>b8X a K false (N3 g args.toList)
 | .call ⟨.builtin .max,args,_⟩=>b8X a K true (N3 g args.toList)
 | .nilCheck x=>nnV K (g x)
 | .makeFunc (.func f) ⟨[]⟩ cs=>match b3L (N3 g cs.toList) with|some ks=>K (.cl f ks)|none=>False
 | .call ⟨.value (.tmp i),args,_⟩=>b25 a os K (g (.tmp i)) (N3 g args.toList)
 | _=>False
def T0 (a:Ar) (s:S) (K:S->Prop) (t:Nat) (y:V):V->Prop
 | .ptr k off=>match C1 s.o k with
  | .box cs=>match a2i y with
   | some l=>match Y5 (G7 l) (ty t).sz with
    | true=>match splice cs off l with
     | some cs'=>K ⟨s.t,K8 s.o k (.box cs')⟩
     | none=>False
    | false=>False
   | none=>False
  | _=>False
 | .el k i sz off=>match C1 s.o k with
  | .row false e rows=>match Y5 (ty e).sz sz with
   | true=>match a.get rows i with
    | some row=>match a2i y with
     | some l=>match a5D s.o l with
      | some ds=>match Y5 (G7 ds) (ty t).sz with
       | true=>match splice row off ds with
        | some row'=>K ⟨s.t,K8 s.o k (.row false e (a.set rows i row'))⟩
        | none=>False
       | false=>False
      | none=>False
     | none=>False
    | none=>False
   | false=>False
  | _=>False
 | _=>False
def Q0 (a:Ar) (m:Bool) (s:S) (dst:Option Nat) (K:S->Prop) (t:Nat) (x y:V):Prop:=match (ty t).elem with
 | some e=>match W8 s.o y with
  | some (sz,ys)=>match c4N (ty e).sz sz with
   | true=>match x with
    | .em=>a.room [] ys (a.new e λz=>K ((s.fresh m (.row z e ys)).put dst (.own (w8 s.o))))
    | .own k=>match C1 s.o k with
     | .row z e' xs=>match Y5 e' e with
      | true=>a.room xs ys (K (S.put ⟨I8 k s.t,K8 (E7 k s.o) k (.row z e (a.app xs ys))⟩ dst (.own k)))
      | false=>False
     | _=>False
    | _=>False
   | false=>False
  | none=>False
 | none=>False
def c8b (a:Ar) (s:S) (dst:Option Nat) (K:S->Prop) (t n:Nat) (ps:List (Nat×Operand)):Prop:=match (ty t).elem with
 | some e=>J3 s.get s.o (λv=>match v with
  | .d (.sl _ rows)=>a.new e λz=>K ((s.obj (.row z e rows)).put dst (.own (w8 s.o)))
  | _=>False) t n ps
 | none=>False
def c0U (a:Ar) (s:S) (K:S->Prop) (t:Nat) (x i v:V):Prop:=match (ty t).kind with
 | .map=>match (ty t).key,x with
  | some kt,.mp k=>match c4O s.o kt i,toR s.o v,C1 s.o k with
   | some r,some q,.mp kt' es=>match Y5 kt' kt with
    | true=>K ⟨s.t,K8 s.o k (.mp kt (a.mput es r q))⟩
    | false=>False
   | _,_,_=>False
  | _,_=>False
 | _=>False
def a4q (a:Ar) (s:S) (dst:Option Nat) (K:S->Prop) (t:Nat):V->V->Prop
 | .d (.sc (.int _ n)),.d (.sc (.int _ m))=>match a.eq n m with
  | true=>match (ty t).elem with
   | some e=>match a5D [] (K9 (ty e).zero) with
    | some z=>a.rep n z λrows=>a.new e λb=>K ((s.obj (.row b e rows)).put dst (.own (w8 s.o)))
    | none=>False
   | none=>False
  | false=>False
 | _,_=>False
def d27:List Value->Bool
 | .pointer none::.slice none 0 0::_=>true
 | _=>false
def a7o (e:Nat):O:=match d27 (ty e).zero with|true=>.ob e (ty e).zero|false=>.box (K9 (ty e).zero)
def H6 (a:Ar) (m:Bool) (s:S) (dst:Option Nat) (K:S->Prop):Op->Prop
 | .alloc e=>match a5p (K9 (ty e).zero) with
  | true=>K ((s.obj (a7o e)).put dst (.ptr (w8 s.o) 0))
  | false=>False
 | .box _ x=>match a2i (s.get x) with
  | some cs=>K ((s.obj (.box cs)).put dst (.ptr (w8 s.o) 0))
  | none=>False
 | .store t x y=>match dst with
  | none=>T0 a s K t (s.get y) (s.get x)
  | some _=>False
 | .makeSlice t x y=>a4q a s dst K t (s.get x) (s.get y)
 | .makeMap t none=>match (ty t).kind with
  | .map=>match (ty t).key with
   | some kt=>K ((s.obj (.mp kt [])).put dst (.mp (w8 s.o)))
   | none=>False
  | _=>False
 | .mapUpdate t x i v=>match dst with
  | none=>c0U a s K t (s.get x) (s.get i) (s.get v)
  | some _=>False
 | .buildSlice t 0 ⟨[]⟩=>match (ty t).elem with
  | some e=>a.new e λz=>K ((s.fresh m (.row z e [])).put dst (.own (w8 s.o)))
  | none=>False
 | .call ⟨.builtin .append,⟨[x,y]⟩,⟨[t,_]⟩⟩=>Q0 a m s dst K t (s.get x) (s.get y)
 | .buildSlice t (n+1) ps=>match m with
  | true=>a.lit t λc=>match c with
   | true=>K4 a s.get s.o (λv=>K (s.put dst v)) (.buildSlice t (n+1) ps)
   | false=>c8b a s dst K t (n+1) ps.toList
  | false=>K4 a s.get s.o (λv=>K (s.put dst v)) (.buildSlice t (n+1) ps)
 | .call ⟨.value (.func f),args,ts⟩=>match m with
  | true=>a.callo f (N3 s.get args.toList) s (λv s'=>K (s'.put dst v))
  | false=>K4 a s.get s.o (λv=>K (s.put dst v)) (.call ⟨.value (.func f),args,ts⟩)
 | .call ⟨.value (.tmp i),args,ts⟩=>match m with
  | true=>match fnV (y8 s.t i) with
   | some (f,ks)=>a.callo f (a4k (N3 s.get args.toList) (a9b ks)) s (λv s'=>K (s'.put dst v))
   | none=>False
  | false=>K4 a s.get s.o (λv=>K (s.put dst v)) (.call ⟨.value (.tmp i),args,ts⟩)
 | op=>K4 a s.get s.o (λv=>K (s.put dst v)) op
def getD:List (Option Nat)->Nat->Option Nat
 | [],_=>none
 | x::_,0=>x
 | _::l,n+1=>getD l n
def vun:V:=.tu []
def guard (s:S) (dsts:List (Option Nat)) (j:Nat) (K:Option Bool->Prop):Prop:=match getD dsts j with
 | some d=>match y8 s.t d with
  | .d (.sc (.bool c))=>K (some c)
  | .tu []=>K none
  | _=>False
 | none=>False
def v6:List Oper->List (Option Nat)
 | []=>[]
 | o::l=>o.dst::v6 l
def run (a:Ar) (m:Bool) (dsts:List (Option Nat)):List Oper->S->(S->Prop)->Prop
 | [],s,K=>K s
 | ⟨dst,op,_,_,_,none⟩::l,s,K=>H6 a m s dst (λs=>run a m dsts l s K) op
 | ⟨dst,op,_,_,_,some (j,b)⟩::l,s,K=>guard s dsts j fun
  | some c=>match bEq c b with
   | true=>H6 a m s dst (λs=>run a m dsts l s K) op
   | false=>run a m dsts l (s.put dst vun) K
  | none=>run a m dsts l (s.put dst vun) K
def c0V:List O->Bool
 | []=>false
 | .it _::_=>true
 | _::l=>c0V l
def d28:V->Bool
 | .bs _ _=>true
 | _=>false
def d04 (os:List O):V->Bool
 | .own k=>match C1 os k with|.it _=>true|_=>false
 | _=>false
def c7t (os:List O):List V->Bool
 | []=>false
 | x::l=>match d04 os x with|true=>true|false=>c7t os l
def c0W (s:S):List (Nat×Operand)->Bool
 | []=>false
 | (_,x)::l=>match (match s.get x with|.ag cs=>c7t s.o cs|v=>d04 s.o v) with|true=>true|false=>c0W s l
def d05 (s:S):Op->Bool
 | .call ⟨.builtin .append,⟨[_,y]⟩,_⟩=>d28 (s.get y)
 | .buildSlice _ (_+1) ps=>c0W s ps.toList
 | .convert t0 t _=>match a15 (ty t0).kind with|true=>a15 (ty t).kind|false=>false
 | _=>false
def a8b (a:Ar) (s:S) (dst:Option Nat) (K:S->Prop) (op:Op):Prop:=match d05 s op with
 | true=>a.ext op dst s K
 | false=>H6 a true s dst K op
def a2D (a:Ar) (dsts:List (Option Nat)):List Oper->S->(S->Prop)->Prop
 | [],s,K=>K s
 | ⟨dst,op,_,_,_,none⟩::l,s,K=>a8b a s dst (λs=>a2D a dsts l s K) op
 | ⟨dst,op,_,_,_,some (j,b)⟩::l,s,K=>guard s dsts j fun
  | some c=>match bEq c b with
   | true=>a8b a s dst (λs=>a2D a dsts l s K) op
   | false=>a2D a dsts l (s.put dst vun) K
  | none=>a2D a dsts l (s.put dst vun) K
def c0X (N:S->Prop) (K:X->S->Prop):X->S->Prop
 | .normal,s=>N s
 | .exit i,s=>K (.exit i) s
 | .ret,s=>K .ret s
def c0Y (id:Nat) (K:X->S->Prop):X->S->Prop
 | .normal,s=>K .normal s
 | .exit i,s=>match Y5 i id with|true=>K .normal s|false=>K (.exit i) s
 | .ret,s=>K .ret s
def upN:List Nat->Nat->Nat->Nat
 | k::_,_,0=>k
 | _::l,n,j+1=>upN l n j
 | [],n,j=>n+j
def upK (ks:List Nat) (n:Nat):List Nat->List Nat
 | []=>[]
 | j::l=>upN ks n j::upK ks n l
def up1 (ks:List Nat) (n:Nat):V->V
 | .own j=>.own (upN ks n j)
 | .ptr j off=>.ptr (upN ks n j) off
 | .cl f l=>.cl f (upK ks n l)
 | .el j i sz off=>.el (upN ks n j) i sz off
 | .mp j=>.mp (upN ks n j)
 | .bs j m=>.bs (upN ks n j) m
 | .ag _=>.jk
 | .tu _=>.jk
 | x=>x
def upL (ks:List Nat) (n:Nat):List V->List V
 | []=>[]
 | x::l=>up1 ks n x::upL ks n l
def up2 (ks:List Nat) (n:Nat):V->V
 | .ag cs=>.ag (upL ks n cs)
 | .tu []=>.tu []
 | x=>up1 ks n x
def upT (ks:List Nat) (n:Nat):List V->List V
 | []=>[]
 | x::l=>up2 ks n x::upT ks n l
def upO (ks:List Nat) (n:Nat):O->O
 | .box cs=>.box (upL ks n cs)
 | .kl _=>.dead
 | x=>x
def a0t (ks:List Nat) (n:Nat):List O->List O
 | []=>[]
 | x::l=>upO ks n x::a0t ks n l
def b8Z:List O->List O->List O
 | [],m=>m
 | x::l,m=>x::b8Z l m
def J6:List Nat->List O->List O->List O
 | k::ks,x::os,l=>J6 ks os (K8 l k x)
 | _,os,l=>b8Z l os
def E5:List Nat->List V->List V
 | [],t=>t
 | k::ks,t=>E5 ks (I8 k t)
def a0C:List Nat->List O->List O
 | [],l=>l
 | k::ks,l=>a0C ks (E7 k l)
def a3i (ks:List Nat) (os:List O) (s:S):S:=⟨E5 ks s.t,J6 ks (a0t ks (w8 s.o) os) (a0C ks s.o)⟩
def b0Y (k:Nat):List Nat->Bool
 | []=>false
 | j::l=>match Y5 j k with|true=>true|false=>b0Y k l
def a9c:List Nat->Bool
 | []=>true
 | k::l=>match b0Y k l with|true=>false|false=>a9c l
def pick:List Nat->List O->List O
 | [],_=>[]
 | k::ks,l=>C1 l k::pick ks l
def c0Z:List O->Bool
 | []=>true
 | .dead::_=>false
 | .kl _::_=>false
 | _::l=>c0Z l
def c1a (o:List O) (k:Nat):List O:=match C1 o k with
 | .row _ e rows=>K8 o k (.row true e rows)
 | _=>o
def frz:List Nat->List O->List O
 | [],o=>o
 | k::ks,o=>frz ks (c1a o k)
def b7e:Nat->Nat->List Nat->Bool
 | _,0,_=>true
 | j,n+1,k::l=>match Y5 j k with|true=>b7e (j+1) n l|false=>false
 | _,_+1,[]=>false
def a1i:List V->V
 | [v]=>v
 | vs=>.tu vs
end Go.Proofs.YtdjnoafijjepcaaGreat.Vm
end
section
namespace Go.Proofs.YtdjnoafijjepcaaGreat
open Go.RowKit
set_option maxRecDepth 100000
set_option maxHeartbeats 4000000
section
def gb (l:List Int) (i:Nat):Int:=l.getD i 0
theorem a07 (l:List Int) (a i:Nat):gb (l.drop a) i=gb l (a+i):=by
 unfold gb;simp[d4r]
theorem c4P (l:List Int) (a i:Nat) (h:i<a):gb (l.take a) i=gb l i:=by
 unfold gb;simp[h]
theorem c8d {l:List Int} {i:Nat} (h:i<l.length):l[i]?=some (gb l i):=by unfold gb;simp[h]
theorem a4r {l m:List Int} {i:Nat} (h:i<l.length):gb (l++m) i=gb l i:=by unfold gb;simp[d4b h]
theorem c4Q {l:List Int} {k:Nat} (h:k<l.length):l.take (k+1)=l.take k++[gb l k]:=by
 rw[d4Y h];unfold gb;simp[h]
theorem b5F {l:List Int} {i:Nat} (h:i<l.length):gb l i∈l:=d3U (c8d h)
section
variable {w w':World} {k:IntKind} {b off:Nat} {l:List Int} {A:Option Addr}
end
end
section
section
variable {w w':World} {g:Nat} {t:TypeId} {cs:Array Value}
end
section
variable {w w':World} {g:Nat} {t:TypeId} {k:IntKind} {l:List Int}
end
end
section
section
variable {P:Program} (w:World)
end
def Own (w:World) (base:Nat) (t:TypeId) (k:IntKind) (v:Value) (ps:List Int):Prop:=w.ownsRow base t 1 v ps.length (ps.map (Value.int k))
section
variable {w w':World} {base:Nat} {t:TypeId} {k:IntKind} {v:Value} {ps:List Int}
theorem Own.mono {base':Nat} (h:Own w base t k v ps) (hb:base'<=base):Own w base' t k v ps:=by
 refine⟨h.1,?_⟩
 rcases h.2 with h2|⟨g,cap,cur,hv,hg,r⟩
 ·exact .inl h2
 ·exact .inr ⟨g,cap,cur,hv,by omega,r⟩
end
end
section
section
variable {P:Program} (w:World)
def c7v (w:World) (A:Option Addr) (m size:Nat) (ys:List Value):Prop:=ys.length=m * size/\(A=none->m=0)/\(∀ad,A=some ad->∀j u,ys[j]?=some u->w.cell? (ad.add j)=some u)/\∀u∈ys,u.oneCell'=true
end
end
end Go.Proofs.YtdjnoafijjepcaaGreat
end
section
namespace Go.Proofs.YtdjnoafijjepcaaGreat.Vm
open Go.RowKit
set_option maxRecDepth 100000
set_option maxHeartbeats 4000000
def Up (I:Nat->Nat->Prop) (b n:Nat):Prop:=∃h,n<=h/\I b h
theorem Up.mono {I I':Nat->Nat->Prop} (hI:∀b h,I b h->I' b h) {b n:Nat} (h:Up I b n):Up I' b n:=by
 obtain⟨k,h1,h2⟩:=h;exact⟨k,h1,hI _ _ h2⟩
theorem Up.down {I:Nat->Nat->Prop} {b n m:Nat} (h:Up I b n) (hm:m<=n):Up I b m:=by
 obtain⟨k,h1,h2⟩:=h;exact⟨k,d5m hm h1,h2⟩
inductive AtD (I:Nat->Nat->Prop) (w:World):Value->D->Prop
 | sc (v:Value) (h:v.oneCell'=true):AtD I w v (.sc v)
 | nil (A:Option Addr) (cap sz:Nat):AtD I w (.slice A 0 cap) (.sl sz [])
 | sl (b off cap sz:Nat) (rows:List (List D)) (us:List Value) (hcap:rows.length<=cap) (hI:Up I b (off+rows.length * sz)) (hr:∀r∈rows,r.length=sz) (hl:us.length=rows.length * sz)
   (hc:∀i u,us[i]?=some u->w.cell? ⟨b,off+i,none⟩=some u) (hd:∀(i:Nat) (u:Value) (d:D),us[i]?=some u->rows.flatten[i]?=some d->AtD I w u d) :
   AtD I w (.slice (some ⟨b,off,none⟩) rows.length cap) (.sl sz rows)
def C3 (I:Nat->Nat->Prop) (w w':World):Prop:=∀b h,I b h->∀i,i<h->w'.cell? ⟨b,i,none⟩=w.cell? ⟨b,i,none⟩
theorem C3.trans {I:Nat->Nat->Prop} {w1 w2 w3:World} (h:C3 I w1 w2) (h2:C3 I w2 w3):C3 I w1 w3:=λb k hb i hi=>(h2 b k hb i hi).trans (h b k hb i hi)
theorem C3.refl (I:Nat->Nat->Prop) (w:World):C3 I w w:=λ_ _ _ _ _=>rfl
theorem AtD.mono {I I':Nat->Nat->Prop} {w w':World} (hI:∀b h,I b h->I' b h) (hk:C3 I w w') {v:Value} {d:D} (h:AtD I w v d):AtD I' w' v d:=by
 induction h with
 | sc v h=>exact .sc v h
 | nil A cap sz=>exact .nil A cap sz
 | sl b off cap sz rows us hcap hi hr hl hc _ ih =>
  refine .sl b off cap sz rows us hcap (hi.mono hI) hr hl (λi u hu=>?_) ih;have hlt:i<rows.length * sz:=by rw[<-hl];exact(d3J.1 hu).1
  obtain⟨k,hk1,hk2⟩:=hi;exact(hk _ _ hk2 _ (by omega)).trans (hc i u hu)
theorem AtD.one {I:Nat->Nat->Prop} {w:World} {v:Value} {d:D} (h:AtD I w v d):v.oneCell'=true:=by
 cases h with
 | sc v h=>exact h
 | nil=>rfl
 | sl=>rfl
theorem a2j {α:Type} {sz:Nat}:∀ {rows:List (List α)},(∀r∈rows,r.length=sz)->rows.flatten.length=rows.length * sz
 | [],_=>by simp
 | r::rows,h=>by
  rw[d4D,d3K,h r (d3L ..),a2j λx hx=>h x (d3M _ hx),d3O,d4R];omega
theorem a16 {α:Type} {sz:Nat}:∀ {rows:List (List α)},(∀r∈rows,r.length=sz)->∀ {i j:Nat} {r:List α},rows[i]?=some r->j<sz->rows.flatten[i * sz+j]?=r[j]?
 | [],_,i,j,r,hr,_=>by simp at hr
 | s::rows,h,0,j,r,hr,hj=>by
  simp at hr
  subst hr;rw[d4D,d4b (by rw[h s (d3L ..)];omega)]
  simp
 | s::rows,h,i+1,j,r,hr,hj=>by
  have hr':rows[i]?=some r:=by simpa using hr
  rw[d4D,d3V (by rw[h s (d3L ..),d4R];omega),<-a16 (λx hx=>h x (d3M _ hx)) hr' hj]
  congr 1
  rw[h s (d3L ..),d4R];omega
def F8 (I:Nat->Nat->Prop) (w:World) (us:List Value) (ds:List D):Prop:=us.length=ds.length/\∀(i:Nat) (u:Value) (d:D),us[i]?=some u->ds[i]?=some d->AtD I w u d
theorem F8.mono {I I':Nat->Nat->Prop} {w w':World} (hI:∀b h,I b h->I' b h) (hk:C3 I w w') {us:List Value} {ds:List D} (h:F8 I w us ds):F8 I' w' us ds :=
 ⟨h.1,λi u d hu hd=>(h.2 i u d hu hd).mono hI hk⟩
theorem F8.nil (I:Nat->Nat->Prop) (w:World):F8 I w [] []:=⟨rfl,λi u d h=>by simp at h⟩
theorem F8.cons {I:Nat->Nat->Prop} {w:World} {u:Value} {d:D} {us:List Value} {ds:List D} (h:AtD I w u d) (hs:F8 I w us ds):F8 I w (u::us) (d::ds) :=
 ⟨by simp[hs.1],λi x y hx hy=>by
  cases i with
  | zero=>simp at hx hy;subst hx;subst hy;exact h
  | succ i=>exact hs.2 i x y (by simpa using hx) (by simpa using hy)⟩
theorem F8.uncons {I:Nat->Nat->Prop} {w:World} {us:List Value} {d:D} {ds:List D} (h:F8 I w us (d::ds)):∃u us',us=u::us'/\AtD I w u d/\F8 I w us' ds:=by
 cases us with
 | nil=>have:=h.1;simp at this
 | cons u us=>exact⟨u,us,rfl,h.2 0 u d rfl rfl,by have:=h.1;simpa using this,λi x y hx hy=>h.2 (i+1) x y (by simpa using hx) (by simpa using hy)⟩
theorem F8.one {I:Nat->Nat->Prop} {w:World} {us:List Value} {ds:List D} (h:F8 I w us ds):∀u∈us,u.oneCell'=true:=by
 intro u hu;obtain⟨i,hi⟩:=d42.1 hu;have hlt:i<ds.length:=by rw[<-h.1];exact(d3J.1 hi).1
 exact(h.2 i u _ hi (d3H hlt)).one
theorem F8.drop {I:Nat->Nat->Prop} {w:World} {us:List Value} {ds:List D} (h:F8 I w us ds) (n:Nat):F8 I w (us.drop n) (ds.drop n) :=
 ⟨by simp[h.1],λi u d hu hd=>h.2 (n+i) u d (by rw[<-d4r];exact hu) (by rw[<-d4r];exact hd)⟩
theorem F8.take {I:Nat->Nat->Prop} {w:World} {us:List Value} {ds:List D} (h:F8 I w us ds) (n:Nat):F8 I w (us.take n) (ds.take n) :=
 ⟨by simp[h.1],λi u d hu hd=>by
  rw[d4y] at hu hd
  split at hu
  ·rw[d3I (by assumption)] at hd;exact h.2 i u d hu hd
  ·cases hu⟩
theorem F8.append {I:Nat->Nat->Prop} {w:World} {us us':List Value} {ds ds':List D} (h:F8 I w us ds) (h':F8 I w us' ds'):F8 I w (us++us') (ds++ds') :=
 ⟨by simp[h.1,h'.1],λi u d hu hd=>by
  by_cases hi:i<us.length
  ·rw[d4b hi] at hu;rw[d4b (by rw[<-h.1];exact hi)] at hd;exact h.2 i u d hu hd
  ·rw[d3V (by omega)] at hu;rw[d3V (by rw[<-h.1];omega),<-h.1] at hd
   exact h'.2 _ u d hu hd⟩
theorem AtD.slice {I:Nat->Nat->Prop} {w:World} {v:Value} {sz:Nat} {rows:List (List D)} (h:AtD I w v (.sl sz rows)):∃A cap,v=.slice A rows.length cap/\rows.length<=cap/\(rows=[]\/∃b off us,A=some ⟨b,off,none⟩/\Up I b (off+rows.length * sz)/\(∀r∈rows,r.length=sz) /\
  us.length=rows.length * sz/\(∀i u,us[i]?=some u->w.cell? ⟨b,off+i,none⟩=some u)/\F8 I w us rows.flatten):=by
 cases h with
 | nil A cap sz=>exact⟨A,cap,rfl,d4o _,.inl rfl⟩
 | sl b off cap sz rows us hcap hI hr hl hc hd=>exact⟨_,cap,rfl,hcap,.inr ⟨b,off,us,rfl,hI,hr,hl,hc,by rw[hl,a2j hr],hd⟩⟩
def c1b (v:Value) (F:List Nat):Value:=.tuple (v::F.map λb=>.pointer (some ⟨b,0,none⟩)).toArray
def gv:Value->Value
 | .tuple us=>us.getD 0 .nilFunc
 | v=>v
inductive AtV (I:Nat->Nat->Prop) (w:World) (g:Nat->Value):Value->V->Prop
 | d {v:Value} {x:D} (h:AtD I w v x):AtV I w g v (.d x)
 | ag (us:List Value) (cs:List V) (hl:us.length=cs.length) (h:∀(i:Nat) (u:Value) (c:V),us[i]?=some u->cs[i]?=some c->AtV I w g u c):AtV I w g (.agg us.toArray) (.ag cs)
 | tu (us:List Value) (cs:List V) (hl:us.length=cs.length) (h:∀(i:Nat) (u:Value) (c:V),us[i]?=some u->cs[i]?=some c->AtV I w g u c):AtV I w g (.tuple us.toArray) (.tu cs)
 | em:AtV I w g (.slice none 0 0) .em
 | own (k:Nat) (A:Option Addr) (n cap:Nat) (h:gv (g k)=.slice A n cap):AtV I w g (.slice A n cap) (.own k)
 | ptr (k off b:Nat) (h:g k=.pointer (some ⟨b,0,none⟩)):AtV I w g (.pointer (some ⟨b,off,none⟩)) (.ptr k off)
 | cl (f:Nat) (us:List Value) (ks:List Nat) (hl:us.length=ks.length) (h:∀(i:Nat) (u:Value) (k:Nat),us[i]?=some u->ks[i]?=some k->u=g k/\∃b,g k=.pointer (some ⟨b,0,none⟩)):AtV I w g (.func (.func f) #[] us.toArray) (.cl f ks)
 | el (k:Nat) (i:Int) (sz off b n cap:Nat) (h:g k=.slice (some ⟨b,0,none⟩) n cap):AtV I w g (.pointer (some ⟨b,i.toNat * sz+off,none⟩)) (.el k i sz off)
 | ro (b o off:Nat) (us:List Value) (cs:List D) (hI:Up I b (o+cs.length)) (hc:∀i u,us[i]?=some u->w.cell? ⟨b,o+i,none⟩=some u) (hd:F8 I w us cs):AtV I w g (.pointer (some ⟨b,o+off,none⟩)) (.ro cs off)
 | mp (k b:Nat) (h:g k=.map (some b)):AtV I w g (.map (some b)) (.mp k)
 | bs (k n b cap:Nat) (h:g k=.pointer (some ⟨b,0,none⟩)) (hn:n<=cap):AtV I w g (.slice (some ⟨b,0,none⟩) n cap) (.bs k n)
 | jk (v:Value):AtV I w g v .jk
theorem AtV.mono {I I':Nat->Nat->Prop} {w w':World} {g:Nat->Value} (hI:∀b h,I b h->I' b h) (hk:C3 I w w') {v:Value} {x:V} (h:AtV I w g v x):AtV I' w' g v x:=by
 induction h with
 | d h=>exact .d (h.mono hI hk)
 | ag us cs hl _ ih=>exact .ag us cs hl ih
 | tu us cs hl _ ih=>exact .tu us cs hl ih
 | em=>exact .em
 | own k A n cap h=>exact .own k A n cap h
 | ptr k off b h=>exact .ptr k off b h
 | cl f us ks hl h=>exact .cl f us ks hl h
 | el k i sz off b n cap h=>exact .el k i sz off b n cap h
 | ro b o off us cs hi hc hd =>
  refine .ro b o off us cs (hi.mono hI) (λi u hu=>?_) (hd.mono hI hk);have hlt:i<cs.length:=by rw[<-hd.1];exact(d3J.1 hu).1
  obtain⟨k,hk1,hk2⟩:=hi;exact(hk _ _ hk2 _ (by omega)).trans (hc i u hu)
 | mp k b h=>exact .mp k b h
 | bs k n b cap h hn=>exact .bs k n b cap h hn
 | jk v=>exact .jk v
def o7 (I:Nat->Nat->Prop) (w:World) (g:Nat->Value) (us:List Value) (cs:List V):Prop:=us.length=cs.length/\∀(i:Nat) (u:Value) (c:V),us[i]?=some u->cs[i]?=some c->AtV I w g u c
theorem o7.mono {I I':Nat->Nat->Prop} {w w':World} {g:Nat->Value} (hI:∀b h,I b h->I' b h) (hk:C3 I w w') {us:List Value} {cs:List V} (h:o7 I w g us cs):o7 I' w' g us cs :=
 ⟨h.1,λi u d hu hd=>(h.2 i u d hu hd).mono hI hk⟩
theorem o7.nil (I:Nat->Nat->Prop) (w:World) (g:Nat->Value):o7 I w g [] []:=⟨rfl,λi u d h=>by simp at h⟩
theorem o7.cons {I:Nat->Nat->Prop} {w:World} {g:Nat->Value} {u:Value} {d:V} {us:List Value} {ds:List V} (h:AtV I w g u d) (hs:o7 I w g us ds):o7 I w g (u::us) (d::ds) :=
 ⟨by simp[hs.1],λi x y hx hy=>by
  cases i with
  | zero=>simp at hx hy;subst hx;subst hy;exact h
  | succ i=>exact hs.2 i x y (by simpa using hx) (by simpa using hy)⟩
theorem o7.uncons {I:Nat->Nat->Prop} {w:World} {g:Nat->Value} {us:List Value} {d:V} {ds:List V} (h:o7 I w g us (d::ds)):∃u us',us=u::us'/\AtV I w g u d/\o7 I w g us' ds:=by
 cases us with
 | nil=>have:=h.1;simp at this
 | cons u us=>exact⟨u,us,rfl,h.2 0 u d rfl rfl,by have:=h.1;simpa using this,λi x y hx hy=>h.2 (i+1) x y (by simpa using hx) (by simpa using hy)⟩
theorem o7.unnil {I:Nat->Nat->Prop} {w:World} {g:Nat->Value} {us:List Value} (h:o7 I w g us []):us=[]:=d4h h.1
theorem o7.drop {I:Nat->Nat->Prop} {w:World} {g:Nat->Value} {us:List Value} {ds:List V} (h:o7 I w g us ds) (n:Nat):o7 I w g (us.drop n) (ds.drop n) :=
 ⟨by simp[h.1],λi u d hu hd=>h.2 (n+i) u d (by rw[<-d4r];exact hu) (by rw[<-d4r];exact hd)⟩
theorem o7.take {I:Nat->Nat->Prop} {w:World} {g:Nat->Value} {us:List Value} {ds:List V} (h:o7 I w g us ds) (n:Nat):o7 I w g (us.take n) (ds.take n) :=
 ⟨by simp[h.1],λi u d hu hd=>by
  rw[d4y] at hu hd
  split at hu
  ·rw[d3I (by assumption)] at hd;exact h.2 i u d hu hd
  ·cases hu⟩
theorem o7.append {I:Nat->Nat->Prop} {w:World} {g:Nat->Value} {us us':List Value} {ds ds':List V} (h:o7 I w g us ds) (h':o7 I w g us' ds'):o7 I w g (us++us') (ds++ds') :=
 ⟨by simp[h.1,h'.1],λi u d hu hd=>by
  by_cases hi:i<us.length
  ·rw[d4b hi] at hu;rw[d4b (by rw[<-h.1];exact hi)] at hd;exact h.2 i u d hu hd
  ·rw[d3V (by omega)] at hu;rw[d3V (by rw[<-h.1];omega),<-h.1] at hd
   exact h'.2 _ u d hu hd⟩
theorem o7.set {I:Nat->Nat->Prop} {w:World} {g:Nat->Value} {us:List Value} {ds:List V} (h:o7 I w g us ds) {u:Value} {d:V} (hd:AtV I w g u d) (n:Nat):o7 I w g (us.set n u) (ds.set n d) :=
 ⟨by simp[h.1],λi x y hx hy=>by
  by_cases hi:n=i
  ·subst hi
   have hlt:n<us.length:=by
    have:=(d3J.1 hx).1
    simpa using this
   rw[d4v hlt] at hx;rw[d4v (by rw[<-h.1];exact hlt)] at hy;injection hx with hx;injection hy with hy;subst hx;subst hy;exact hd
  ·rw[d4i hi] at hx hy
   exact h.2 i x y hx hy⟩
theorem Z6 {I:Nat->Nat->Prop} {w:World} {g:Nat->Value} {us:List Value} {cs:List V} (h:o7 I w g us cs):AtV I w g (.agg us.toArray) (.ag cs):=.ag us cs h.1 h.2
theorem a2U {I:Nat->Nat->Prop} {w:World} {g:Nat->Value} {us:List Value} {cs:List V} (h:o7 I w g us cs):AtV I w g (.tuple us.toArray) (.tu cs):=.tu us cs h.1 h.2
theorem AtV.unag {I:Nat->Nat->Prop} {w:World} {g:Nat->Value} {v:Value} {cs:List V} (h:AtV I w g v (.ag cs)):∃us,v=.agg us.toArray/\o7 I w g us cs:=by
 cases h with
 | ag us cs hl h=>exact⟨us,rfl,hl,h⟩
theorem AtV.untu {I:Nat->Nat->Prop} {w:World} {g:Nat->Value} {v:Value} {cs:List V} (h:AtV I w g v (.tu cs)):∃us,v=.tuple us.toArray/\o7 I w g us cs:=by
 cases h with
 | tu us cs hl h=>exact⟨us,rfl,hl,h⟩
theorem AtV.unem {I:Nat->Nat->Prop} {w:World} {g:Nat->Value} {v:Value} (h:AtV I w g v .em):v=.slice none 0 0:=by cases h;rfl
theorem AtV.unown {I:Nat->Nat->Prop} {w:World} {g:Nat->Value} {v:Value} {k:Nat} (h:AtV I w g v (.own k)):v=gv (g k)/\∃A n cap,gv (g k)=.slice A n cap:=by
 cases h with
 | own k A n cap h=>exact⟨h.symm,A,n,cap,h⟩
theorem AtV.unbs {I:Nat->Nat->Prop} {w:World} {g:Nat->Value} {v:Value} {k n:Nat} (h:AtV I w g v (.bs k n)):∃b cap,g k=.pointer (some ⟨b,0,none⟩)/\v=.slice (some ⟨b,0,none⟩) n cap/\n<=cap:=by
 cases h with
 | bs k n b cap h hn=>exact⟨b,cap,h,rfl,hn⟩
theorem AtV.unmp {I:Nat->Nat->Prop} {w:World} {g:Nat->Value} {v:Value} {k:Nat} (h:AtV I w g v (.mp k)):∃b,g k=.map (some b)/\v=.map (some b):=by
 cases h with
 | mp k b h=>exact⟨b,h,rfl⟩
theorem AtV.unptr {I:Nat->Nat->Prop} {w:World} {g:Nat->Value} {v:Value} {k off:Nat} (h:AtV I w g v (.ptr k off)):∃b,g k=.pointer (some ⟨b,0,none⟩)/\v=.pointer (some ⟨b,off,none⟩):=by
 cases h with
 | ptr k off b h=>exact⟨b,h,rfl⟩
theorem F8.toV {I:Nat->Nat->Prop} {w:World} (g:Nat->Value):∀ {ds:List D} {us:List Value},F8 I w us ds->o7 I w g us (C0 ds)
 | [],us,h=>by
  rw[d4h h.1];exact .nil I w g
 | d::ds,us,h=>by
  obtain⟨u,us',rfl,h1,h2⟩:=h.uncons;exact .cons (.d h1) (F8.toV g h2)
section
structure Fr (X:Nat->Prop) (w w':World):Prop where
 os:w'.os=w.os
 tape:w'.tape=w.tape
 output:w'.output=w.output
 size:w.heap.size<=w'.heap.size
 block:∀b,b<w.heap.size->¬X b->w'.heap[b]?=w.heap[b]?
theorem Fr.refl (X:Nat->Prop) (w:World):Fr X w w:=⟨rfl,rfl,rfl,d3Q _,λ_ _ _=>rfl⟩
def b5G (X:Nat->Prop) (w:World):Prop:=∀t∈c7W,w.var? Tryz.prog t.1=some (t.2.2.map λz=>Value.int t.2.1 z).toArray/\∀g,Tryz.prog.globalNamed t.1=some g->¬X g
theorem c1c {w:World} {name:String} {a:Array Value} (h:w.var? Tryz.prog name=some a):∃g t c,Tryz.prog.globalNamed name=some g/\w.heap[g]?=some (.cells a t c)/\g<w.heap.size:=by
 unfold World.var? at h;cases hg:Tryz.prog.globalNamed name with
 | none=>rw[hg] at h;cases h
 | some g =>
  rw[hg] at h;simp only[Option.bind_some] at h;cases ho:w.heap[g]? with
  | none=>rw[ho] at h;cases h
  | some o =>
   rw[ho] at h;cases o with
   | cells a' t c=>injection h with h;subst h;exact⟨g,t,c,rfl,ho,(d3Z.1 ho).1⟩
   | _=>cases h
theorem c1d {w:World} {name:String} {a:Array Value} {g:Nat} {t:TypeId} {c:Nat×Nat} (hg:Tryz.prog.globalNamed name=some g) (h:w.heap[g]?=some (.cells a t c)):w.var? Tryz.prog name=some a:=by
 unfold World.var?;rw[hg];simp only[Option.bind_some,h]
theorem b5G.fr {X X':Nat->Prop} {w w':World} (h:b5G X w) (hf:Fr X w w') (hX:∀b,b<w.heap.size->¬X b->¬X' b):b5G X' w':=λt ht=>by
 obtain⟨h1,h2⟩:=h t ht;obtain⟨g,ty,c,e1,e2,e3⟩:=c1c h1;exact⟨c1d e1 ((hf.block g e3 (h2 g e1)).trans e2),λg' hg'=>by rw[e1] at hg';injection hg' with hg';subst hg';exact hX _ e3 (h2 _ e1)⟩
def Wld (I:Nat->Nat->Prop) (w:World):Prop:=(∀b h,I b h->b<w.heap.size)/\b5G (λ_=>False) w
structure W0 where
 w:World
 g:Nat->Value
 n:Nat
 d:List Deferred
def gbl:Value->Nat->Prop
 | .pointer (some a),b=>a.block=b
 | .slice (some a) _ _,b=>a.block=b
 | .map (some c),b=>c=b
 | .tuple us,b=>.pointer (some ⟨b,0,none⟩)∈us.toList
 | _,_=>False
theorem a3j {A:Option Addr} {n cap:Nat} {F:List Nat} {b:Nat}:gbl (c1b (.slice A n cap) F) b↔b∈F:=by
 show Value.pointer (some ⟨b,0,none⟩)∈Value.slice A n cap::F.map (λb=>.pointer (some ⟨b,0,none⟩))↔_
 simp
def a0H:Value->Bool
 | .pointer _=>true
 | .map _=>true
 | .agg _=>true
 | _=>false
def a3F (X:Nat->Prop) (w0:W0) (b:Nat):Prop:=w0.w.heap.size<=b\/X b
def AtR (I:Nat->Nat->Prop) (w:World) (v:Value):R->Prop
 | .one x=>AtD I w v x
 | .ag xs=>∃us,v=.agg us.toArray/\F8 I w us xs
theorem AtR.mono {I I':Nat->Nat->Prop} {w w':World} (hI:∀b h,I b h->I' b h) (hk:C3 I w w') {v:Value} {r:R} (h:AtR I w v r):AtR I' w' v r:=by
 cases r with
 | one x=>exact AtD.mono hI hk h
 | ag xs=>obtain⟨us,h1,h2⟩:=h;exact⟨us,h1,h2.mono hI hk⟩
def b26 (I:Nat->Nat->Prop) (w:World) (kt:Nat) (l:List MapEntry) (es:List (R×R)):Prop:=l.length=es.length/\∀(i:Nat) (e:MapEntry) (p:R×R),l[i]?=some e->es[i]?=some p->AtR I w e.key p.1/\AtR I w e.val p.2/\a4j kt p.1=true
theorem b26.mono {I I':Nat->Nat->Prop} {w w':World} (hI:∀b h,I b h->I' b h) (hk:C3 I w w') {kt:Nat} {l:List MapEntry} {es:List (R×R)} (h:b26 I w kt l es):b26 I' w' kt l es :=
 ⟨h.1,λi e p he hp=>by obtain⟨h1,h2,h3⟩:=h.2 i e p he hp;exact⟨h1.mono hI hk,h2.mono hI hk,h3⟩⟩
def a1k (X:Nat->Prop) (w0:W0) (I:Nat->Nat->Prop) (w:World) (g:Nat->Value) (k:Nat):O->Prop
 | .dead=>True
 | .box cs=>∃(b:Nat) (us:List Value) (t:TypeId×List Value),g k=.pointer (some ⟨b,0,none⟩)/\w.heap[b]?=some (.cells (us++t.2).toArray t.1 (0,0))/\o7 I w g us cs/\(∀u∈us,u.oneCell'=true)/\(∀h,¬I b h)/\a3F X w0 b
 | .mp kt es=>∃b l c,g k=.map (some b)/\w.heap[b]?=some (.map l c)/\b26 I w kt l.toList es/\(∀h,¬I b h)/\a3F X w0 b
 | .kl ks=>∃us,g k=.agg us/\us.size<=k/\∀(j:Nat) (u:Value),us[j]?=some u->u=.nilFunc\/g j=u\/j∈ks
 | .ob T vs=>∃b:Nat,g k=.pointer (some ⟨b,0,none⟩)/\w.heap[b]?=some (.cells vs.toArray T (0,0))/\(∀h,¬I b h)/\a3F X w0 b
 | .it P=>∃A n cap F,g k=c1b (.slice A n cap) F/\P w (.slice A n cap) F/\(∀w':World,(∀b∈F,w'.heap[b]?=w.heap[b]?)->P w' (.slice A n cap) F)/\∀b∈F,(∃(c:Array Value) (t:TypeId),w.heap[b]?=some (.cells c t (0,0)))/\(∀h,¬I b h)/\a3F X w0 b
 | .row z e rows=>∃us,w.ownsRow 0 e (ty e).sz (g k) rows.length us/\(∀r∈rows,r.length=(ty e).sz)/\F8 I w us rows.flatten /\
   ∀b,(g k).ownBlock=some b->(z=true->I b (rows.length * (ty e).sz))/\(∀h,I b h->z=true/\h<=rows.length * (ty e).sz)/\a3F X w0 b
def U7 (s:S) (k:Nat):Prop:=∃o,s.o[k]?=some o/\o≠.dead
structure RelI (I0:Nat->Nat->Prop) (X:Nat->Prop) (w0:W0) (I:Nat->Nat->Prop) (g:Nat->Value) (s:S) (a:Act) (w:World):Prop where
 im:∀b h,I0 b h->I b h
 lt:∀b h,I b h->b<w.heap.size/\(b<w0.w.heap.size->I0 b h\/X b)
 fr:Fr X w0.w w
 kp:C3 I0 w0.w w
 lo:w0.n<=s.o.length
 st:∀k,k<w0.n->a0H (w0.g k)=true->g k=w0.g k
 obj:∀k o,s.o[k]?=some o->a1k X w0 I w g k o
 dis:∀j k b,U7 s j->U7 s k->gbl (g j) b->gbl (g k) b->j=k
 out:∀k,s.o.length<=k->g k=.nilFunc
 tmp:o7 I w g a.tmps.toList s.t
 dfr:a.defers=w0.d/\b5G X w0.w
def Rel (I0:Nat->Nat->Prop) (X:Nat->Prop) (w0:W0) (s:S) (a:Act) (w:World):Prop:=∃I g,RelI I0 X w0 I g s a w
theorem A0:∀l:List O,w8 l=l.length
 | []=>rfl
 | _::l=>by rw[w8,A0 l];rfl
theorem M9 {α:Type}:∀l:List α,G7 l=l.length
 | []=>rfl
 | _::l=>by rw[G7,M9 l];rfl
theorem a0U (o:O):∀l:List O,B4 l o=l++[o]
 | []=>rfl
 | x::l=>by rw[B4,a0U o l];rfl
theorem J0 (o:O):∀(l:List O) (k:Nat),K8 l k o=l.set k o
 | [],_=>rfl
 | _::_,0=>rfl
 | x::l,k+1=>by rw[K8,J0 o l k];rfl
theorem a0l (v:V):∀(l:List V) (k:Nat),H5 l k v=l.set k v
 | [],_=>rfl
 | _::_,0=>rfl
 | x::l,k+1=>by rw[H5,a0l v l k];rfl
theorem C7:∀ {l:List O} {k:Nat} {o:O},C1 l k=o->o≠.dead->l[k]?=some o
 | [],_,_,h,hd=>absurd h.symm hd
 | x::_,0,_,h,_=>by rw[C1] at h;rw[h];rfl
 | x::l,k+1,_,h,hd=>by rw[C1] at h;simpa using C7 h hd
theorem a1l:∀ {l:List V} {k:Nat} {v:V},y8 l k=v->v≠.jk->l[k]?=some v
 | [],_,_,h,hd=>absurd h.symm hd
 | x::_,0,_,h,_=>by rw[y8] at h;rw[h];rfl
 | x::l,k+1,_,h,hd=>by rw[y8] at h;simpa using a1l h hd
theorem a4s:∀(l:List V) (k:Nat),l[k]?=some (y8 l k)\/(l.length<=k/\y8 l k=.jk)
 | [],_=>.inr ⟨by simp,rfl⟩
 | x::_,0=>.inl rfl
 | x::l,k+1=>by
  rcases a4s l k with h|⟨h1,h2⟩
  ·exact .inl (by simpa [y8] using h)
  ·exact .inr ⟨by simp;exact h1,by rw[y8];exact h2⟩
theorem a17 {α:Type}:∀(n:Nat) (l:List α),Z0 n l=l.drop n
 | 0,_=>rfl
 | _+1,[]=>rfl
 | n+1,_::l=>by rw[Z0,a17 n l];rfl
theorem a18 {α:Type}:∀ {n:Nat} {l m:List α},Q9 n l=some m->m=l.take n/\m.length=n
 | 0,_,_,h=>by injection h with h;subst h;simp
 | _+1,[],_,h=>by cases h
 | n+1,x::l,m,h=>by
  rw[Q9] at h
  split at h
  ·rename_i t ht;injection h with h;subst h;have:=a18 ht;exact⟨by simp[this.1],by simp[this.2]⟩
  ·cases h
theorem H0:∀ {n m:Nat},Y5 n m=true↔n=m
 | 0,0=>by simp[Y5]
 | 0,m+1=>by simp[Y5]
 | n+1,0=>by simp[Y5]
 | n+1,m+1=>by rw[Y5,H0];omega
theorem a3G {n m:Nat}:Y5 n m=false↔n≠m:=by
 rw[<-Bool.not_eq_true,H0]
theorem a1m {α:Type}:∀ {l:List α} {n:Nat} {m r:List α},splice l n m=some r->r=l.take n++m++l.drop (n+m.length)/\n+m.length<=l.length
 | l,0,[],r,h=>by
  rw[splice] at h;injection h with h;subst h
  simp
 | x::l,0,y::ys,r,h=>by
  rw[splice] at h
  split at h
  ·rename_i t ht;injection h with h;subst h;obtain⟨e,hl⟩:=a1m ht;refine⟨?_,by simp at hl ⊢;omega⟩;rw[e]
   simp
  ·cases h
 | x::l,n+1,ys,r,h=>by
  rw[splice] at h
  split at h
  ·rename_i t ht;injection h with h;subst h;obtain⟨e,hl⟩:=a1m ht;refine⟨?_,by simp at hl ⊢;omega⟩;rw[e]
   simp[Nat.add_right_comm]
  ·cases h
 | [],n+1,ys,r,h=>by rw[splice] at h;cases h
 | [],0,y::ys,r,h=>by rw[splice] at h;cases h
theorem o7.splice {I:Nat->Nat->Prop} {w:World} {g:Nat->Value} {us vs:List Value} {cs ds r:List V} {n:Nat} (h:o7 I w g us cs) (h':o7 I w g vs ds) (hr:splice cs n ds=some r):o7 I w g (us.take n++vs++us.drop (n+vs.length)) r:=by
 obtain⟨e,_⟩:=a1m hr;subst e;rw[h'.1];exact((h.take n).append h').append (h.drop _)
section
variable {I0:Nat->Nat->Prop} {X:Nat->Prop} {w0:W0} {I:Nat->Nat->Prop} {g:Nat->Value} {s:S} {a:Act} {w:World}
theorem b1o (v:Value):AtV I w g v (a7m v):=by
 unfold a7m
 split
 ·exact .em
 ·exact .jk _
 ·exact .jk _
 ·rename_i h1 h2 h3;refine .d (.sc _ ?_);cases v <;> first|rfl|(exfalso;exact h2 _ rfl)|(exfalso;exact h3 _ rfl)
theorem a0m:∀l:List Value,o7 I w g l (K9 l)
 | []=>.nil I w g
 | x::l=>.cons (b1o x) (a0m l)
theorem RelI.get (h:RelI I0 X w0 I g s a w) (x:Operand):AtV I w g (a.eval x) (s.get x):=by
 cases x with
 | tmp i =>
  show AtV I w g (a.tmps.getD i undef) (y8 s.t i)
  rcases a4s s.t i with h1|⟨_,h2⟩
  ·have hi:i<s.t.length:=(d3J.1 h1).1;have hi':i<a.tmps.size:=by have h2:=h.tmp.1;rw[d4K] at h2;rw[h2];exact hi
   have h3:=h.tmp.2 i a.tmps[i] _ (by simp[hi']) h1;rw[Array.getD_eq_getD_getElem?,d4I hi'];exact h3
  ·rw[h2];exact .jk _
 | const v=>exact b1o v
 | global k=>exact .jk _
 | func f=>exact .cl f [] [] rfl λi u k hu _=>by simp at hu
theorem RelI.gets (h:RelI I0 X w0 I g s a w):∀l:List Operand,o7 I w g (l.map a.eval) (N3 s.get l)
 | []=>.nil I w g
 | x::l=>.cons (h.get x) (h.gets l)
theorem RelI.put (h:RelI I0 X w0 I g s a w) {v:Value} {x:V} (hv:AtV I w g v x) (dst:Option Nat):RelI I0 X w0 I g (s.put dst x) (a.put dst v) w:=by
 cases dst with
 | none=>exact h
 | some d =>
  refine⟨h.im,h.lt,h.fr,h.kp,h.lo,h.st,h.obj,h.dis,h.out,?_,h.dfr⟩;show o7 I w g (a.tmps.setIfInBounds d v).toList (H5 s.t d x);rw[a0l,Array.toList_setIfInBounds];exact h.tmp.set hv d
theorem Fr.drew {wz:World} (h:Fr X wz w):Fr X wz w.drew:=⟨h.os,h.tape,h.output,h.size,h.block⟩
theorem RelI.drew (h:RelI I0 X w0 I g s a w):RelI I0 X w0 I g s a w.drew:=by
 have hk:C3 I w w.drew:=λ_ _ _ _ _=>rfl
 refine⟨h.im,h.lt,h.fr.drew,h.kp,h.lo,h.st,λk o ho=>?_,h.dis,h.out,h.tmp.mono (λ_ _ h=>h) hk,h.dfr⟩;have:=h.obj k o ho;cases o with
 | dead=>exact True.intro
 | box cs=>obtain⟨b,us,t,h1,h2,h3,h4,h5,h6⟩:=this;exact⟨b,us,t,h1,h2,h3.mono (λ_ _ h=>h) hk,h4,h5,h6⟩
 | row z e rows=>obtain⟨us,h1,h2,h3,h4⟩:=this;exact⟨us,h1,h2,h3.mono (λ_ _ h=>h) hk,h4⟩
 | mp kt es=>obtain⟨b,l,c,h1,h2,h3,h4⟩:=this;exact⟨b,l,c,h1,h2,h3.mono (λ_ _ h=>h) hk,h4⟩
 | it P=>obtain⟨A,n,cap,F,h1,h2,h3,h4⟩:=this;exact⟨A,n,cap,F,h1,h3 _ λ_ _=>rfl,h3,h4⟩
 | ob T vs=>obtain⟨b,h1,h2,h3⟩:=this;exact⟨b,h1,h2,h3⟩
 | kl ks=>exact this
theorem a1k.blk {k:Nat} {o:O} (h:a1k X w0 I w g k o) (hd:o≠.dead):∀b,gbl (g k) b->b<w.heap.size/\a3F X w0 b:=by
 intro b hb;cases o with
 | dead=>exact absurd rfl hd
 | box cs =>
  obtain⟨b',us,t,h1,h2,h3,h4,h5,h6⟩:=h;rw[h1] at hb;obtain rfl:b'=b:=hb;exact⟨(d3Z.1 h2).1,h6⟩
 | row z e rows =>
  obtain⟨us,h1,h2,h3,h4⟩:=h
  rcases h1.2 with⟨e0,_⟩|⟨g',cap,cur,e0,_,hh,_⟩
  ·rw[e0] at hb;exact hb.elim
  ·rw[e0] at hb;obtain rfl:g'=b:=hb;exact⟨(d3Z.1 hh).1,(h4 _ (by rw[e0];rfl)).2.2⟩
 | mp kt es =>
  obtain⟨b',l,c,h1,h2,h3,h4,h5⟩:=h;rw[h1] at hb;obtain rfl:b'=b:=hb;exact⟨(d3Z.1 h2).1,h5⟩
 | ob T vs =>
  obtain⟨b',h1,h2,h4,h5⟩:=h;rw[h1] at hb;obtain rfl:b'=b:=hb;exact⟨(d3Z.1 h2).1,h5⟩
 | it P =>
  obtain⟨A,n,cap,F,h1,h2,h3,h4⟩:=h;rw[h1,a3j] at hb;obtain⟨⟨c,t,h5⟩,h6⟩:=h4 b hb;exact⟨(d3Z.1 h5).1,h6.2⟩
 | kl ks =>
  obtain⟨us,h1,_⟩:=h;rw[h1] at hb;exact hb.elim
theorem RelI.tabs (h:RelI I0 X w0 I g s a w) {X':Nat->Prop} (hX:∀b,X' b->a3F X w0 b):b5G X' w:=h.dfr.2.fr h.fr λb hb hn hx=>(hX b hx).elim (λh3=>absurd hb (Nat.not_lt.2 h3)) hn
theorem RelI.wld (h:RelI I0 X w0 I g s a w):Wld I w:=⟨λb k hb=>(h.lt b k hb).1,h.tabs λ_ h=>h.elim⟩
theorem a1k.keep {k:Nat} {o:O} {w':World} {I':Nat->Nat->Prop} (h:a1k X w0 I w g k o) (hI:∀b h,I b h->I' b h) (hk:C3 I w w') (hb:∀b,gbl (g k) b->w'.heap[b]?=w.heap[b]?) (hI':∀b,gbl (g k) b->∀h,I' b h->I b h):a1k X w0 I' w' g k o:=by
 cases o with
 | dead=>exact True.intro
 | box cs =>
  obtain⟨b,us,t,h1,h2,h3,h4,h5,h6⟩:=h;have hg:gbl (g k) b:=by rw[h1];rfl
  exact⟨b,us,t,h1,(hb b hg).trans h2,h3.mono hI hk,h4,λh h'=>h5 h (hI' b hg h h'),h6⟩
 | row z e rows =>
  obtain⟨us,h1,h2,h3,h4⟩:=h
  have hblk:∀b,(g k).ownBlock=some b->gbl (g k) b:=λb hb'=>by
   rcases h1.2 with⟨e0,_⟩|⟨g',cap,cur,e0,_⟩ <;> rw[e0] at hb' ⊢
   ·cases hb'
   ·exact Option.some.inj hb'
  refine⟨us,⟨h1.1,?_⟩,h2,h3.mono hI hk,λb hb'=>⟨λhz=>hI _ _ ((h4 b hb').1 hz),λh h'=>(h4 b hb').2.1 h (hI' b (hblk b hb') h h'),(h4 b hb').2.2⟩⟩
  rcases h1.2 with h0|⟨g',cap,cur,e0,hb',hh,r⟩
  ·exact .inl h0
  ·exact .inr ⟨g',cap,cur,e0,hb',(hb g' (by rw[e0];rfl)).trans hh,r⟩
 | mp kt es =>
  obtain⟨b,l,c,h1,h2,h3,h4,h5⟩:=h;have hg:gbl (g k) b:=by rw[h1];rfl
  exact⟨b,l,c,h1,(hb b hg).trans h2,h3.mono hI hk,λh h'=>h4 h (hI' b hg h h'),h5⟩
 | ob T vs =>
  obtain⟨b,h1,h2,h4,h5⟩:=h;have hg:gbl (g k) b:=by rw[h1];rfl
  exact⟨b,h1,(hb b hg).trans h2,λh h'=>h4 h (hI' b hg h h'),h5⟩
 | it P =>
  obtain⟨A,n,cap,F,h1,h2,h3,h4⟩:=h;have hg:∀b∈F,gbl (g k) b:=λb hb=>by rw[h1,a3j];exact hb
  have hF:∀b∈F,w'.heap[b]?=w.heap[b]?:=λb hm=>hb b (hg b hm)
  refine⟨A,n,cap,F,h1,h3 w' hF,λw2 h2=>h3 w2 λb hb=>(h2 b hb).trans (hF b hb),λb hm=>⟨?_,λh h'=>(h4 b hm).2.1 h (hI' b (hg b hm) h h'),(h4 b hm).2.2⟩⟩;obtain⟨c,t,h5⟩:=(h4 b hm).1;exact⟨c,t,(hF b hm).trans h5⟩
 | kl ks=>exact h
theorem RelI.grow (h:RelI I0 X w0 I g s a w) {w':World} (hb:Below w.heap.size w w') {I':Nat->Nat->Prop} (hI:∀b k,I b k->I' b k) (hI':∀b k,I' b k->I b k\/(w.heap.size<=b/\b<w'.heap.size)):RelI I0 X w0 I' g s a w':=by
 have hk:C3 I w w':=λb k hbk i _=>hb.cell (p:=⟨b,i,none⟩) (h.lt b k hbk).1
 refine⟨λb k hb=>hI _ _ (h.im b k hb),λb k hbk=>?_,?_,h.kp.trans λb k hbk i hi=>hk b k (h.im b k hbk) i hi,h.lo,h.st,λk o ho=>?_,h.dis,h.out,h.tmp.mono hI hk,h.dfr⟩
 ·rcases hI' b k hbk with h1|⟨h1,h2⟩
  ·exact⟨d4M (h.lt b k h1).1 hb.size,(h.lt b k h1).2⟩
  ·exact⟨h2,λh3=>absurd (d4M h3 h.fr.size) (by omega)⟩
 ·exact⟨hb.os.trans h.fr.os,hb.tape.trans h.fr.tape,hb.output.trans h.fr.output,d5m h.fr.size hb.size,λb hb1 hX=>(hb.block b (d4M hb1 h.fr.size)).trans (h.fr.block b hb1 hX)⟩
 ·cases hd:o with
  | dead=>exact True.intro
  | box cs =>
   have ho':=h.obj k o ho;rw[hd] at ho';refine ho'.keep hI hk (λb hb'=>hb.block b (ho'.blk (by simp) b hb').1) λb hb' k' hk'=>?_
   rcases hI' b k' hk' with h1|⟨h1,_⟩
   ·exact h1
   ·have:=(ho'.blk (by simp) b hb').1;omega
  | row z e rows =>
   have ho':=h.obj k o ho;rw[hd] at ho';refine ho'.keep hI hk (λb hb'=>hb.block b (ho'.blk (by simp) b hb').1) λb hb' k' hk'=>?_
   rcases hI' b k' hk' with h1|⟨h1,_⟩
   ·exact h1
   ·have:=(ho'.blk (by simp) b hb').1;omega
  | mp kt es =>
   have ho':=h.obj k o ho;rw[hd] at ho';refine ho'.keep hI hk (λb hb'=>hb.block b (ho'.blk (by simp) b hb').1) λb hb' k' hk'=>?_
   rcases hI' b k' hk' with h1|⟨h1,_⟩
   ·exact h1
   ·have:=(ho'.blk (by simp) b hb').1;omega
  | ob T vs =>
   have ho':=h.obj k o ho;rw[hd] at ho';refine ho'.keep hI hk (λb hb'=>hb.block b (ho'.blk (by simp) b hb').1) λb hb' k' hk'=>?_
   rcases hI' b k' hk' with h1|⟨h1,_⟩
   ·exact h1
   ·have:=(ho'.blk (by simp) b hb').1;omega
  | it P =>
   have ho':=h.obj k o ho;rw[hd] at ho';refine ho'.keep hI hk (λb hb'=>hb.block b (ho'.blk (by simp) b hb').1) λb hb' k' hk'=>?_
   rcases hI' b k' hk' with h1|⟨h1,_⟩
   ·exact h1
   ·have:=(ho'.blk (by simp) b hb').1;omega
  | kl ks =>
   have ho':=h.obj k o ho;rw[hd] at ho';refine ho'.keep hI hk (λb hb'=>hb.block b (ho'.blk (by simp) b hb').1) λb hb' k' hk'=>?_
   rcases hI' b k' hk' with h1|⟨h1,_⟩
   ·exact h1
   ·have:=(ho'.blk (by simp) b hb').1;omega
end
end
section
theorem AtV.more {I:Nat->Nat->Prop} {w:World} {g g':Nat->Value} (hg:∀k,g k≠.nilFunc->g' k=g k) {v:Value} {x:V} (h:AtV I w g v x):AtV I w g' v x:=by
 induction h with
 | d h=>exact .d h
 | ag us cs hl _ ih=>exact .ag us cs hl ih
 | tu us cs hl _ ih=>exact .tu us cs hl ih
 | em=>exact .em
 | own k A n cap h=>exact .own k A n cap ((congrArg gv (hg k (by intro e;rw[e] at h;cases h))).trans h)
 | ptr k off b h=>exact .ptr k off b ((hg k (by rw[h];simp)).trans h)
 | cl f us ks hl h =>
  exact .cl f us ks hl λi u k hu hk=>by
   obtain⟨h1,b,h2⟩:=h i u k hu hk;have h3:=hg k (by rw[h2];simp);exact⟨h1.trans h3.symm,b,h3.trans h2⟩
 | el k i sz off b n cap h=>exact .el k i sz off b n cap ((hg k (by rw[h];simp)).trans h)
 | ro b o off us cs hi hc hd=>exact .ro b o off us cs hi hc hd
 | mp k b h=>exact .mp k b ((hg k (by rw[h];simp)).trans h)
 | bs k n b cap h hn=>exact .bs k n b cap ((hg k (by rw[h];simp)).trans h) hn
 | jk v=>exact .jk v
theorem o7.more {I:Nat->Nat->Prop} {w:World} {g g':Nat->Value} (hg:∀k,g k≠.nilFunc->g' k=g k) {us:List Value} {cs:List V} (h:o7 I w g us cs):o7 I w g' us cs :=
 ⟨h.1,λi u d hu hd=>(h.2 i u d hu hd).more hg⟩
theorem a1k.more {X:Nat->Prop} {w0:W0} {I:Nat->Nat->Prop} {w:World} {g g':Nat->Value} (hg:∀k,g k≠.nilFunc->g' k=g k) {k:Nat} {o:O} (h:a1k X w0 I w g k o):a1k X w0 I w g' k o:=by
 cases o with
 | dead=>exact True.intro
 | box cs =>
  obtain⟨b,us,t,h1,h2,h3,h4⟩:=h;exact⟨b,us,t,(hg k (by rw[h1];simp)).trans h1,h2,h3.more hg,h4⟩
 | row z e rows =>
  obtain⟨us,h1,h2,h3,h4⟩:=h;have:g' k=g k:=hg k (by rcases h1.2 with⟨e0,_⟩|⟨g',cap,cur,e0,_⟩ <;> rw[e0] <;> simp);exact⟨us,by rw[this];exact h1,h2,h3,by rw[this];exact h4⟩
 | mp kt es =>
  obtain⟨b,l,c,h1,h2⟩:=h;exact⟨b,l,c,(hg k (by rw[h1];simp)).trans h1,h2⟩
 | ob T vs =>
  obtain⟨b,h1,h2⟩:=h;exact⟨b,(hg k (by rw[h1];simp)).trans h1,h2⟩
 | it P =>
  obtain⟨A,n,cap,F,h1,h2⟩:=h;exact⟨A,n,cap,F,(hg k (by rw[h1];simp[c1b])).trans h1,h2⟩
 | kl ks =>
  obtain⟨us,h1,h2,h3⟩:=h;refine⟨us,(hg k (by rw[h1];simp)).trans h1,h2,λj u hu=>?_⟩
  rcases h3 j u hu with h4|h4|h4
  ·exact .inl h4
  ·by_cases e:u=.nilFunc
   ·exact .inl e
   ·exact .inr (.inl ((hg j (by rw[h4];exact e)).trans h4))
  ·exact .inr (.inr h4)
section
variable {I0:Nat->Nat->Prop} {X:Nat->Prop} {w0:W0} {I:Nat->Nat->Prop} {g:Nat->Value} {s:S} {a:Act} {w:World}
def upd (g:Nat->Value) (k:Nat) (v:Value):Nat->Value:=λj=>if j=k then v else g j
theorem v7 (g:Nat->Value) (k:Nat) (v:Value):upd g k v k=v:=d3I rfl
theorem F0 {g:Nat->Value} {k:Nat} {v:Value} {j:Nat} (h:j≠k):upd g k v j=g j:=d3G h
theorem RelI.fresh (h:RelI I0 X w0 I g s a w) (v:Value):∀k,g k≠.nilFunc->upd g s.o.length v k=g k:=λk hk=>F0 λe=>hk (h.out k (by omega))
theorem RelI.newObj (h:RelI I0 X w0 I g s a w) (o:O) (v:Value) (ho:a1k X w0 I w (upd g s.o.length v) s.o.length o) (hdis:∀j b,U7 s j->gbl (g j) b->¬gbl v b):RelI I0 X w0 I (upd g s.o.length v) (s.obj o) a w:=by
 have hg:=h.fresh v
 have hget:∀k o',(s.o++[o])[k]?=some o'->(k<s.o.length/\s.o[k]?=some o')\/(k=s.o.length/\o'=o):=λk o' hk=>by
  rcases d4F k s.o.length with hlt|hge
  ·rw[d4b hlt] at hk;exact .inl ⟨hlt,hk⟩
  ·rw[d3V hge] at hk
   have h0:k - s.o.length=0:=by
    have:=(d3J.1 hk).1;simp at this;omega
   rw[h0] at hk
   simp at hk
   exact .inr ⟨by omega,hk.symm⟩
 have ho2:(s.obj o).o=s.o++[o]:=a0U o s.o;refine⟨h.im,h.lt,h.fr,h.kp,by rw[ho2,d3K];exact d5m h.lo (Nat.le_add_right _ _),λk hk hr=>by rw[F0 (by have:=h.lo;omega)];exact h.st k hk hr,λk o' hk=>?_,λj k b hj hk hbj hbk=>?_,λk hk=>?_,h.tmp.more hg,h.dfr⟩
 ·rw[ho2] at hk
  rcases hget k o' hk with⟨hlt,hk'⟩|⟨rfl,rfl⟩
  ·exact(h.obj k o' hk').more hg
  ·exact ho
 ·obtain⟨oj,hoj,hdj⟩:=hj;obtain⟨ok,hok,hdk⟩:=hk;rw[ho2] at hoj hok
  rcases hget j oj hoj with⟨hlj,hj'⟩|⟨rfl,rfl⟩ <;> rcases hget k ok hok with⟨hlk,hk'⟩|⟨rfl,rfl⟩
  ·rw[F0 (by omega)] at hbj hbk;exact h.dis j k b ⟨_,hj',hdj⟩ ⟨_,hk',hdk⟩ hbj hbk
  ·rw[F0 (by omega)] at hbj;rw[v7] at hbk;exact absurd hbk (hdis j b ⟨_,hj',hdj⟩ hbj)
  ·rw[F0 (by omega)] at hbk;rw[v7] at hbj;exact absurd hbj (hdis k b ⟨_,hk',hdk⟩ hbk)
  ·rfl
 ·rw[ho2,d3K,d5f] at hk;rw[F0 (by omega)];exact h.out k (by omega)
theorem RelI.blk_lt (h:RelI I0 X w0 I g s a w) {j b:Nat} (hj:U7 s j) (hb:gbl (g j) b):b<w.heap.size:=by
 obtain⟨o,ho,hd⟩:=hj;exact((h.obj j o ho).blk hd b hb).1
theorem RelI.box (h:RelI I0 X w0 I g s a w) {us:List Value} {cs:List V} (hus:o7 I w g us cs) (h1:∀u∈us,u.oneCell'=true) (t:TypeId) :
  ∃g',g' s.o.length=.pointer (some ⟨w.heap.size,0,none⟩)/\RelI I0 X w0 I g' (s.obj (.box cs)) a (w.alloc (.cells us.toArray t)):=by
 have hb:Below w.heap.size w (w.alloc (.cells us.toArray t)):=(Below.refl _ _).alloc (d3Q _) _;have h2:=h.grow hb (I':=I) (λ_ _ h=>h) (λ_ _ h=>.inl h);have hk:C3 I w (w.alloc (.cells us.toArray t)):=λb k hbk i _=>hb.cell (p:=⟨b,i,none⟩) (h.lt b k hbk).1
 refine⟨upd g s.o.length (.pointer (some ⟨w.heap.size,0,none⟩)),v7 ..,h2.newObj _ _ ⟨w.heap.size,us,(t,[]),v7 ..,by rw[d4d];exact heap_alloc_new w _,(hus.more (h.fresh _)).mono (λ_ _ h=>h) hk,h1,λk hk'=>?_,.inl h.fr.size⟩ λj b hj hbj e=>?_⟩
 ·exact absurd (h.lt _ _ hk').1 (by omega)
 ·have e:w.heap.size=b:=e;have:=h.blk_lt hj hbj;omega
theorem RelI.obNew (h:RelI I0 X w0 I g s a w) (us:List Value) (t:TypeId) :
  ∃g',g' s.o.length=.pointer (some ⟨w.heap.size,0,none⟩)/\RelI I0 X w0 I g' (s.obj (.ob t us)) a (w.alloc (.cells us.toArray t)):=by
 have hb:Below w.heap.size w (w.alloc (.cells us.toArray t)):=(Below.refl _ _).alloc (d3Q _) _;have h2:=h.grow hb (I':=I) (λ_ _ h=>h) (λ_ _ h=>.inl h);refine⟨upd g s.o.length (.pointer (some ⟨w.heap.size,0,none⟩)),v7 ..,h2.newObj _ _ ⟨w.heap.size,v7 ..,heap_alloc_new w _,λk hk'=>?_,.inl h.fr.size⟩ λj b hj hbj e=>?_⟩
 ·exact absurd (h.lt _ _ hk').1 (by omega)
 ·have e:w.heap.size=b:=e;have:=h.blk_lt hj hbj;omega
theorem a19 {s:S} {k:Nat} {o o':O} (hk:s.o[k]?=some o) (hd:o≠.dead) {j:Nat} (h:U7 ⟨s.t,s.o.set k o'⟩ j):U7 s j:=by
 obtain⟨oj,hoj,hdj⟩:=h
 by_cases e:k=j
 ·subst e;exact⟨o,hk,hd⟩
 ·simp only[d4i e] at hoj;exact⟨oj,hoj,hdj⟩
theorem RelI.store (h:RelI I0 X w0 I g s a w) {k n:Nat} {cs ds r:List V} {vs:List Value} (hk:s.o[k]?=some (.box cs)) (hv:o7 I w g vs ds) (h1:∀u∈vs,u.oneCell'=true) (hr:splice cs n ds=some r) :
  ∃(b:Nat) (us:List Value) (t:TypeId),g k=.pointer (some ⟨b,0,none⟩)/\w.heap[b]?=some (.cells us.toArray t (0,0))/\n+vs.length<=us.length/\RelI I0 X w0 I g ⟨s.t,s.o.set k (.box r)⟩ a (w.setRow b (us.take n++vs++us.drop (n+vs.length)).toArray):=by
 obtain⟨b,us,t,hg,hb,hus,h1s,hI,hM⟩:=h.obj k _ hk;obtain⟨er,hl⟩:=a1m hr;have hnl:n+vs.length<=us.length:=by rw[hv.1,hus.1];exact hl
 refine⟨b,us++t.2,t.1,hg,hb,by rw[d3K];omega,?_⟩;rw[List.take_append_of_le_length (by omega),List.drop_append_of_le_length hnl,<-d4q];have hblk:gbl (g k) b:=by rw[hg];rfl
 have hlk:U7 s k:=⟨_,hk,by simp⟩
 have hkp:C3 I w (w.setRow b (us.take n++vs++us.drop (n+vs.length)++t.2).toArray):=λb' h' hi i _=>by
  refine cell_setRow_other _ _ _ _ λe=>?_
  simp only at e;subst e;exact hI _ hi
 refine⟨h.im,λb' h' hi=>by rw[setRow_size];exact h.lt b' h' hi,?_,h.kp.trans λb k hbk i hi=>hkp b k (h.im b k hbk) i hi,by simpa using h.lo,h.st,λj o hj=>?_,λi j b' hi hj=>h.dis i j b' (a19 hk (by simp) hi) (a19 hk (by simp) hj),λj hj=>h.out j (by simpa using hj),h.tmp.mono (λ_ _ h=>h) hkp,h.dfr⟩
 ·refine⟨h.fr.os,h.fr.tape,h.fr.output,by rw[setRow_size];exact h.fr.size,λb' hb' hX=>?_⟩;rw[setRow_other _ _ _ _ (λe=>?_)]
  ·exact h.fr.block b' hb' hX
  ·subst e
   rcases hM with hM|hM
   ·omega
   ·exact hX hM
 ·by_cases e:k=j
  ·subst e;have hlt:k<s.o.length:=(d3J.1 hk).1;simp only[d4v hlt] at hj;injection hj with hj;subst hj;refine⟨b,_,t,hg,setRow_heap w b _ _ t.1 (0,0) hb,(hus.splice hv hr).mono (λ_ _ h=>h) hkp,λu hu=>?_,hI,hM⟩
   rcases d4s.1 hu with hu|hu
   ·rcases d4s.1 hu with hu|hu
    ·exact h1s u (d5z hu)
    ·exact h1 u hu
   ·exact h1s u (d50 hu)
  ·simp only[d4i e] at hj;have ho:=h.obj j o hj
   by_cases hd:o=.dead
   ·subst hd;exact True.intro
   ·refine ho.keep (λ_ _ h=>h) hkp (λb' hb'=>setRow_other _ _ _ _ λe'=>?_) λ_ _ _ h=>h
    subst e';exact e (h.dis k j _ hlk ⟨o,hj,hd⟩ hblk hb')
theorem b3O {α:Type} {sz off:Nat} {ds:List α}:∀ {rows:List (List α)} {i:Nat} {row row':List α},(∀r∈rows,r.length=sz)->rows[i]?=some row->splice row off ds=some row'->(rows.set i row').flatten=rows.flatten.take (i * sz+off)++ds++rows.flatten.drop (i * sz+off+ds.length)
 | [],i,row,row',_,h,_=>by simp at h
 | r::rows,0,row,row',hl,h,hs=>by
  simp at h
  subst h;obtain⟨e,hle⟩:=a1m hs;subst e;have hr:=hl r (d3L ..);rw[List.set_cons_zero,d4D,d4D,d6r,d4L,List.take_append_of_le_length (by omega),List.drop_append_of_le_length hle]
  simp
 | r::rows,i+1,row,row',hl,h,hs=>by
  have hr:=hl r (d3L ..);have ih:=b3O (λx hx=>hl x (d3M _ hx)) (by simpa using h) hs;have e1:(i+1) * sz+off=r.length+(i * sz+off):=by rw[hr,d4R];omega
  rw[List.set_cons_succ,d4D,d4D,ih,e1,List.take_length_add_append,d48 r.length,List.drop_length_add_append]
  simp
theorem RelI.setEl (h:RelI I0 X w0 I g s a w) {k e i off:Nat} {rows:List (List D)} {row ds row':List D} {vs:List Value} (hk:s.o[k]?=some (.row false e rows)) (hr:rows[i]?=some row) (hv:F8 I w vs ds) (hs:splice row off ds=some row') :
  ∃(b n cap:Nat) (cur:Array Value),g k=.slice (some ⟨b,0,none⟩) n cap/\w.heap[b]?=some (.cells cur e (0,0))/\i * (ty e).sz+off+vs.length<=cur.size/\RelI I0 X w0 I g ⟨s.t,s.o.set k (.row false e (rows.set i row'))⟩ a (w.setRow b (cur.toList.take (i * (ty e).sz+off)++vs++cur.toList.drop (i * (ty e).sz+off+vs.length)).toArray):=by
 obtain⟨us,h1,h2,h3,h4⟩:=h.obj k _ hk;have hlt:i<rows.length:=(d3J.1 hr).1;have hrl:=h2 _ (d3U hr);obtain⟨es,hle⟩:=a1m hs
 rcases h1.2 with⟨_,e2⟩|⟨b,cap,cur,hg,_,hb,hnc,hcm,hcs,htk⟩
 ·omega
 have hblk:gbl (g k) b:=by rw[hg];rfl
 have hown:=h4 b (by rw[hg];rfl);have hI:∀h',¬I b h':=λh' hi=>by have:=(hown.2.1 h' hi).1;cases this
 have hM:=hown.2.2;have hlk:U7 s k:=⟨_,hk,by simp⟩;have hsub:i * (ty e).sz+(ty e).sz<=rows.length * (ty e).sz:=by rw[<-d4R];exact d4A _ hlt
 have hcap:rows.length * (ty e).sz<=cap * (ty e).sz:=d4A _ hnc;have hfit:i * (ty e).sz+off+vs.length<=rows.length * (ty e).sz:=by rw[hv.1];omega
 refine⟨b,rows.length,cap,cur,hg,hb,by omega,?_⟩;generalize hp:i * (ty e).sz+off=p at *
 have hkp:C3 I w (w.setRow b (cur.toList.take p++vs++cur.toList.drop (p+vs.length)).toArray):=λb' h' hi i _=>by
  refine cell_setRow_other _ _ _ _ λe=>?_
  simp only at e;subst e;exact hI _ hi
 refine⟨h.im,λb' h' hi=>by rw[setRow_size];exact h.lt b' h' hi,?_,h.kp.trans λb k hbk i hi=>hkp b k (h.im b k hbk) i hi,by simpa using h.lo,h.st,λj o hj=>?_,λi j b' hi hj=>h.dis i j b' (a19 hk (by simp) hi) (a19 hk (by simp) hj),λj hj=>h.out j (by simpa using hj),h.tmp.mono (λ_ _ h=>h) hkp,h.dfr⟩
 ·refine⟨h.fr.os,h.fr.tape,h.fr.output,by rw[setRow_size];exact h.fr.size,λb' hb' hX=>?_⟩;rw[setRow_other _ _ _ _ (λe=>?_)]
  ·exact h.fr.block b' hb' hX
  ·subst e
   rcases hM with hM|hM
   ·omega
   ·exact hX hM
 ·by_cases e':k=j
  ·subst e';have hlt:k<s.o.length:=(d3J.1 hk).1;simp only[d4v hlt] at hj;injection hj with hj;subst hj;have hcl:cur.toList.length=cap * (ty e).sz:=by simpa using hcs
   refine⟨us.take p++vs++us.drop (p+vs.length),⟨?_,.inr ⟨b,cap,_,by rw[hg,d4k],d4o _,setRow_heap w b _ _ e (0,0) hb,by rw[d4k];exact hnc,hcm,?_,?_⟩⟩,λr hrm=>?_,?_,λb' hb'=>?_⟩
   ·rw[d4k,d3K,d3K,d4n,d4l,h1.1];omega
   ·simp only[d5d,d3K,d4n,d4l,hcl];omega
   ·have hA:(cur.toList.take p++vs).length=p+vs.length:=by rw[d3K,d4n,hcl];omega
    rw[d4k,List.take_append,d4z (by rw[hA];omega),hA,<-htk,List.take_take,d5Q (by omega),List.drop_take]
   ·rcases d4J hrm with hrm|rfl
    ·exact h2 r hrm
    ·rw[es,d3K,d3K,d4n,d4l];omega
   ·rw[b3O h2 hr hs,hp];rw[<-hv.1];exact(((h3.take p).append hv).append (h3.drop _)).mono (λ_ _ h=>h) hkp
   ·rw[hg] at hb';have hb':=Option.some.inj hb';subst hb';exact⟨λhz=>(by cases hz),λh' hi=>absurd hi (hI h'),hM⟩
  ·simp only[d4i e'] at hj;have ho:=h.obj j o hj
   by_cases hd:o=.dead
   ·subst hd;exact True.intro
   ·refine ho.keep (λ_ _ h=>h) hkp (λb' hb'=>setRow_other _ _ _ _ λe''=>?_) λ_ _ _ h=>h
    subst e'';exact e' (h.dis k j _ hlk ⟨o,hj,hd⟩ hblk hb')
theorem a0x {g':Nat->Value} {k:Nat} (hg:∀j,j≠k->g' j=g j) (hk:a0H (g k)=true->g' k=g k) {v:Value} {x:V} (h:AtV I w g v x):AtV I w g' v (a8W k x):=by
 have hp:∀j,a0H (g j)=true->g' j=g j:=λj e=>by
  by_cases hj:j=k
  ·subst hj;exact hk e
  ·exact hg j hj
 cases h with
 | d h=>exact .d h
 | ag us cs hl h=>exact .jk _
 | tu us cs hl h=>exact .jk _
 | em=>exact .em
 | own j A n cap h =>
  show AtV I w g' _ (match Y5 j k with|true=>.jk|false=>.own j);cases e:Y5 j k
  ·exact .own j A n cap ((congrArg gv (hg j (a3G.1 e))).trans h)
  ·exact .jk _
 | ptr j off b h=>exact .ptr j off b ((hp j (by rw[h];rfl)).trans h)
 | mp j b h=>exact .mp j b ((hp j (by rw[h];rfl)).trans h)
 | cl f us ks hl h =>
  exact .cl f us ks hl λi u j hu hj=>by
   obtain⟨h1,b,h2⟩:=h i u j hu hj;have h3:=hp j (by rw[h2];rfl);exact⟨h1.trans h3.symm,b,h3.trans h2⟩
 | el j i sz off b n cap h =>
  show AtV I w g' _ (match Y5 j k with|true=>.jk|false=>.el j i sz off);cases e:Y5 j k
  ·exact .el j i sz off b n cap ((hg j (a3G.1 e)).trans h)
  ·exact .jk _
 | ro b o off us cs hi hc hd=>exact .ro b o off us cs hi hc hd
 | bs j n b cap h hn=>exact .bs j n b cap ((hp j (by rw[h];rfl)).trans h) hn
 | jk v=>exact .jk v
theorem a3k {g':Nat->Value} {k:Nat} (hg:∀j,j≠k->g' j=g j) (hk:a0H (g k)=true->g' k=g k):∀ {cs:List V} {us:List Value},o7 I w g us cs->o7 I w g' us (E6 k cs)
 | [],us,h=>by rw[h.unnil];exact .nil I w g'
 | c::cs,us,h=>by
  obtain⟨u,us',rfl,h1,h2⟩:=h.uncons;exact .cons (a0x hg hk h1) (a3k hg hk h2)
theorem c1e {g':Nat->Value} {k:Nat} (hg:∀j,j≠k->g' j=g j) (hk:a0H (g k)=true->g' k=g k) {v:Value} {x:V} (h:AtV I w g v x):AtV I w g' v (J2 k x):=by
 cases x with
 | ag cs =>
  obtain⟨us,rfl,h2⟩:=h.unag;exact Z6 (a3k hg hk h2)
 | tu cs =>
  cases cs with
  | nil =>
   obtain⟨us,rfl,h2⟩:=h.untu;rw[h2.unnil];exact a2U (.nil I w g')
  | cons c cs=>exact .jk _
 | d x=>exact a0x hg hk h
 | em=>exact a0x hg hk h
 | own j=>exact a0x hg hk h
 | ptr j off=>exact a0x hg hk h
 | cl f ks=>exact a0x hg hk h
 | el j i sz off=>exact a0x hg hk h
 | ro cs off=>exact a0x hg hk h
 | mp k=>exact a0x hg hk h
 | bs k n=>exact a0x hg hk h
 | jk=>exact .jk _
theorem a4t {g':Nat->Value} {k:Nat} (hg:∀j,j≠k->g' j=g j) (hk:a0H (g k)=true->g' k=g k):∀ {cs:List V} {us:List Value},o7 I w g us cs->o7 I w g' us (I8 k cs)
 | [],us,h=>by rw[h.unnil];exact .nil I w g'
 | c::cs,us,h=>by
  obtain⟨u,us',rfl,h1,h2⟩:=h.uncons;exact .cons (c1e hg hk h1) (a4t hg hk h2)
theorem a0I (k:Nat):∀(l:List O) (j:Nat) (o:O),(E7 k l)[j]?=some o->∃o',l[j]?=some o'/\(o≠.dead->o'≠.dead)/\((∃cs,o'=.box cs/\o=.box (E6 k cs))\/(∃ks,o'=.kl ks/\o=.kl (k::ks))\/(o=o'/\(∀cs,o≠.box cs)/\∀ks,o≠.kl ks))
 | [],j,o,h=>by simp[E7] at h
 | x::l,0,o,h=>by
  cases x with
  | box cs=>simp[E7] at h;exact⟨_,rfl,λ_=>by simp,.inl ⟨cs,rfl,h.symm⟩⟩
  | kl ks=>simp[E7] at h;exact⟨_,rfl,λ_=>by simp,.inr (.inl ⟨ks,rfl,h.symm⟩)⟩
  | row z e rows=>simp[E7] at h;subst h;exact⟨_,rfl,λh=>h,.inr (.inr ⟨rfl,by simp,by simp⟩)⟩
  | mp kt es=>simp[E7] at h;subst h;exact⟨_,rfl,λh=>h,.inr (.inr ⟨rfl,by simp,by simp⟩)⟩
  | it P=>simp[E7] at h;subst h;exact⟨_,rfl,λh=>h,.inr (.inr ⟨rfl,by simp,by simp⟩)⟩
  | ob T vs=>simp[E7] at h;subst h;exact⟨_,rfl,λh=>h,.inr (.inr ⟨rfl,by simp,by simp⟩)⟩
  | dead=>simp[E7] at h;subst h;exact⟨_,rfl,λh=>h,.inr (.inr ⟨rfl,by simp,by simp⟩)⟩
 | x::l,j+1,o,h=>by
  have h':(E7 k l)[j]?=some o:=by cases x <;> simpa [E7] using h
  obtain⟨o',h1,h2⟩:=a0I k l j o h';exact⟨o',by simpa using h1,h2⟩
theorem N8 (k:Nat):∀l:List O,(E7 k l).length=l.length
 | []=>rfl
 | x::l=>by cases x <;> simp[E7,N8 k l]
theorem a9d (k:Nat) (z:Bool) (e:Nat) (r:List (List D)):∀l:List O,E7 k (B4 l (.row z e r))=B4 (E7 k l) (.row z e r)
 | []=>rfl
 | x::l=>by cases x <;> simp[B4,E7,a9d k z e r l]
theorem RelI.kill (h:RelI I0 X w0 I g s a w) (k:Nat):RelI I0 X w0 I g ⟨I8 k s.t,E7 k s.o⟩ a w:=by
 refine⟨h.im,h.lt,h.fr,h.kp,by simpa [N8] using h.lo,h.st,λj o hj=>?_,λi j b hi hj=>?_,λj hj=>?_,a4t (λ_ _=>rfl) (λ_=>rfl) h.tmp,h.dfr⟩
 ·obtain⟨o',ho',hdd,hsh⟩:=a0I k s.o j o hj;have hob:=h.obj j o' ho'
  rcases hsh with⟨cs,rfl,rfl⟩|⟨ks,rfl,rfl⟩|⟨rfl,hnb,hnf⟩
  ·obtain⟨b,us,t,h1,h2,h3,h4⟩:=hob;exact⟨b,us,t,h1,h2,a3k (λ_ _=>rfl) (λ_=>rfl) h3,h4⟩
  ·obtain⟨us,h1,h2,h3⟩:=hob;exact⟨us,h1,h2,λi u hu=>(h3 i u hu).imp id (Or.imp id (d3M _))⟩
  ·exact hob
 ·have live':∀j,U7 ⟨I8 k s.t,E7 k s.o⟩ j->U7 s j:=λj hj=>by
   obtain⟨o,ho,hd⟩:=hj;obtain⟨o',ho',hdd,_⟩:=a0I k s.o j o ho;exact⟨o',ho',hdd hd⟩
  exact h.dis i j b (live' i hi) (live' j hj)
 ·have hj:(E7 k s.o).length<=j:=hj;rw[N8] at hj;exact h.out j hj
theorem RelI.freshly {m:Bool} {z:Bool} {e:Nat} {r:List (List D)} (h:RelI I0 X w0 I g (s.obj (.row z e r)) a w):RelI I0 X w0 I g (s.fresh m (.row z e r)) a w:=by
 cases m with
 | true=>exact h
 | false =>
  have h1:=h.kill (w8 s.o);have e1:E7 (w8 s.o) (s.obj (.row z e r)).o=B4 (E7 (w8 s.o) s.o) (.row z e r):=a9d ..;rw[e1] at h1;exact h1
end
end
section
theorem a3l {P:Program} (w:World) (base:Nat) (t ty e:TypeId) (i:TypeInfo) (z:Value) (size bytes:Nat) (ht:P.underlying t=some (.slice e)) (hi:P.info? e=some i) (hz:i.zero=some z)
  (hsize:i.size=size) (hby:i.bytes=bytes) (hzs:z.cells.size=size) (hpos:0<size) (v:Value) (n:Nat) (xs:List Value) (hown:w.ownsRow base e size v n xs)
  (A:Option Addr) (m c:Nat) (ys:List Value) (hs:c7v w A m size ys) (h63:n+m<=maxLen) (hbytes:(n+m) * bytes<=140737488355328) (hbase:base<=w.heap.size) :
  ∃v' w',(Builtin.append_ #[t,t] ty #[v,.slice A m c]).run P w=.ok v' w'/\w'.ownsRow base e size v' (n+m) (xs++ys) /\
   ((∃g,v.ownBlock=some g/\v'.ownBlock=some g/\w.grownBy w' (some g))\/(Below w.heap.size w w'/\(v'.ownBlock=none\/v'.ownBlock=some w.heap.size))):=by
 obtain⟨hl,hn,hc,h1⟩:=hs
 rcases A with _|ad
 ·have hm:=hn rfl;subst hm;have hys:ys=[]:=d4h (by rw[hl,d6r]);subst hys;refine⟨v,w,?_,by simpa using hown,?_⟩
  ·rcases hown.2 with⟨rfl,rfl⟩|⟨g,cap,cur,rfl,_,_,hnc,_⟩
   ·simp[Builtin.append_,run_underlying ht,sizeOf,typeInfo,hi,Builtin.lenOf,Builtin.firstCells]
   ·simp[Builtin.append_,run_underlying ht,sizeOf,typeInfo,hi,Builtin.lenOf,Builtin.firstCells,hnc,storeCells]
  ·cases hb:v.ownBlock with
   | none=>exact .inr ⟨Below.refl _ _,.inl rfl⟩
   | some g=>exact .inl ⟨g,rfl,rfl,World.grownBy.refl w _⟩
 ·obtain⟨v',w',hrun,h2,h3,_,hat⟩:=run_append_own_at (P:=P) w base t ty e i z size bytes ht hi hz hsize hby hzs hpos v n xs hown ad m c ys hl (hc ad rfl) h1 h63 hbytes hbase;refine⟨v',w',hrun,h2,?_⟩;subst hsize
  subst hby
  rcases hown.2 with⟨rfl,rfl⟩|⟨g,cap,cur,rfl,hbg,hg,hnc,hcm,hcs,htake⟩
  ·exact .inr ⟨⟨h3.os,h3.tape,h3.output,h3.size,λk hk=>h3.block k hk (by simp[Value.ownBlock])⟩,hat⟩
  ·by_cases hroom:n+m<=cap
   ·have hfit:n * i.size+ys.length<=cur.size:=by rw[hl,hcs,<-Nat.add_mul];exact d4A _ hroom
    have hr:=run_append_room (P:=P) w t ty e i ht hi g n cap cur hg ad m c ys hl (hc ad rfl) h1 hroom hfit;rw[hrun] at hr;injection hr with e1 e2;subst e1;exact .inl ⟨g,rfl,rfl,h3⟩
   ·have holds:∀j u,xs[j]?=some u->w.cell? ((⟨g,0,none⟩:Addr).add j)=some u:=hown.cells (g:=g) rfl;have hr:=run_append_grow (P:=P) w t ty e i z ht hi hz ⟨g,0,none⟩ n cap xs hown.1 holds ad m c ys hl (hc ad rfl) (by omega) (by unfold maxLen at h63;omega) (growslice_fits (by omega) hbytes);rw[hrun] at hr;injection hr with e1 e2;subst e1;subst e2;exact .inr ⟨((Below.refl _ _).drew).alloc (d3Q _) _,.inr rfl⟩
theorem a4u {w w':World} {b:Nat} (h:w'.heap[b]?=w.heap[b]?) (o:Nat):w'.cell? ⟨b,o,none⟩=w.cell? ⟨b,o,none⟩:=by simp only[World.cell?,h]
section
variable {I0:Nat->Nat->Prop} {X:Nat->Prop} {w0:W0} {I:Nat->Nat->Prop} {g:Nat->Value} {s:S} {a:Act} {w:World}
theorem b9a {w w':World} {base e sz n m:Nat} {v v':Value} {us vs:List Value} (h:w.ownsRow base e sz v n us) (h':w'.ownsRow base e sz v' (n+m) (us++vs)) {b:Nat} (hb:v.ownBlock=some b) (hb':v'.ownBlock=some b) {i:Nat} (hi:i<n * sz) :
  w'.cell? ⟨b,i,none⟩=w.cell? ⟨b,i,none⟩:=by
 have e1:∀ {w:World} {v:Value} {n:Nat} {us:List Value},w.ownsRow base e sz v n us->v.ownBlock=some b->∀i,i<n * sz->w.cell? ⟨b,i,none⟩=us[i]?:=λ{w v n us} h hb i hi=>by
  rcases h.2 with⟨rfl,_⟩|⟨g,cap,cur,rfl,_⟩
  ·cases hb
  ·injection hb with hb;subst hb;exact World.ownsRow.cellAt h i hi
 rw[e1 h hb i hi,e1 h' hb' i (by rw[Nat.add_mul];omega),d4b (by rw[h.1];exact hi)]
theorem a3m {w:World} {base e sz n:Nat} {v:Value} {us:List Value} (h:w.ownsRow base e sz v n us) {b:Nat}:gbl v b↔v.ownBlock=some b:=by
 rcases h.2 with⟨rfl,_⟩|⟨g,cap,cur,rfl,_⟩
 ·exact⟨λh=>h.elim,λh=>by cases h⟩
 ·exact⟨λh=>congrArg some h,λh=>Option.some.inj h⟩
theorem a2V {w:World} {base e sz n:Nat} {v:Value} {us:List Value} (h:w.ownsRow base e sz v n us):gv v=v:=by
 rcases h.2 with⟨rfl,_⟩|⟨g,cap,cur,rfl,_⟩ <;> rfl
theorem a1n {w:World} {base e sz n:Nat} {v:Value} {us:List Value} (h:w.ownsRow base e sz v n us):∃A cap,v=.slice A n cap:=by
 rcases h.2 with⟨rfl,h0⟩|⟨g,cap,cur,rfl,_⟩
 ·subst h0;exact⟨_,_,rfl⟩
 ·exact⟨_,_,rfl⟩
theorem RelI.appended (h:RelI I0 X w0 I g s a w) {k e:Nat} {z:Bool} {xs ys:List (List D)} (hk:s.o[k]?=some (.row z e xs)) {us vs:List Value} (hown:w.ownsRow 0 e (ty e).sz (g k) xs.length us) (hys:∀r∈ys,r.length=(ty e).sz) (hvs:F8 I w vs ys.flatten)
  {v':Value} {w':World} (hown':w'.ownsRow 0 e (ty e).sz v' (xs.length+ys.length) (us++vs)) (hsp:(∃b,(g k).ownBlock=some b/\v'.ownBlock=some b/\w.grownBy w' (some b))\/(Below w.heap.size w w'/\(v'.ownBlock=none\/v'.ownBlock=some w.heap.size))) :
  ∃I' g',g' k=v'/\RelI I0 X w0 I' g' ⟨I8 k s.t,(E7 k s.o).set k (.row z e (xs++ys))⟩ a w':=by
 have hok:=h.obj k _ hk;obtain⟨us2,ho2,hr2,hd2,hb2⟩:=hok
 have hus:us2=us:=by
  have h1:=ho2.1;have h2:=hown.1
  rcases ho2.2 with⟨e1,e2⟩|⟨g1,cap,cur,e1,_,hh,_,_,_,ht⟩
  ·rw[e2,d6r] at h1 h2;rw[d4h h1,d4h h2]
  ·rcases hown.2 with⟨e3,e4⟩|⟨g2,cap2,cur2,e3,_,hh2,_,_,_,ht2⟩
   ·rw[e1] at e3;cases e3
   ·rw[e1] at e3;injection e3 with e3 _ _;injection e3 with e3;injection e3 with e3;subst e3;rw[hh] at hh2;injection hh2 with hh2;injection hh2 with hh2;subst hh2;rw[<-ht,<-ht2]
 subst hus;have hgk:∀ {b},gbl (g k) b↔(g k).ownBlock=some b:=a3m hown;have hnp:a0H (g k)=true->upd g k v' k=g k:=λe=>by obtain⟨A,cap,e2⟩:=a1n hown;rw[e2] at e;cases e
 have hlk:U7 s k:=⟨_,hk,by simp⟩;have hlt:k<s.o.length:=(d3J.1 hk).1;have hI':∀b k',I b k'->(λb k'=>I b k'\/(z=true/\v'.ownBlock=some b/\k'<=(xs.length+ys.length) * (ty e).sz)) b k':=λb k' h=>.inl h
 have hlen:xs.length * (ty e).sz<=(xs.length+ys.length) * (ty e).sz:=d4A _ (by omega)
 have hsz:w.heap.size<=w'.heap.size:=by
  rcases hsp with⟨_,_,_,h3⟩|⟨h3,_⟩
  ·exact h3.size
  ·exact h3.size
 have hother:∀b,b<w.heap.size->(g k).ownBlock≠some b->w'.heap[b]?=w.heap[b]?:=λb hb hne=>by
  rcases hsp with⟨c,h1,_,h3⟩|⟨h3,_⟩
  ·exact h3.block b hb (λe=>hne (by rw[h1,<-e]))
  ·exact h3.block b hb
 have hkp:C3 I w w':=λb k' hbk i hi=>by
  have hb:=(h.lt b k' hbk).1
  by_cases hne:(g k).ownBlock=some b
  ·rcases hsp with⟨c,h1,h2,h3⟩|⟨h3,_⟩
   ·rw[h1] at hne;injection hne with hne;subst hne;exact b9a hown hown' h1 h2 (d4M hi ((hb2 c h1).2.1 _ hbk).2)
   ·exact a4u (h3.block b hb) i
  ·exact a4u (hother b hb hne) i
 have hnew:∀b,v'.ownBlock=some b->(g k).ownBlock=some b\/b=w.heap.size:=λb hb=>by
  rcases hsp with⟨c,h1,h2,_⟩|⟨_,h2|h2⟩
  ·rw[h2] at hb;injection hb with hb;subst hb;exact .inl h1
  ·rw[h2] at hb;cases hb
  ·rw[h2] at hb;injection hb with hb;exact .inr hb.symm
 have hlt':∀b,v'.ownBlock=some b->b<w'.heap.size:=λb hb=>(hown'.lt b hb).2
 have hmine:∀b,v'.ownBlock=some b->a3F X w0 b:=λb hb=>by
  rcases hnew b hb with h1|rfl
  ·exact(hb2 b h1).2.2
  ·exact .inl h.fr.size
 have hg':∀j,j≠k->upd g k v' j=g j:=λj hj=>F0 hj
 refine⟨λb k'=>I b k'\/(z=true/\v'.ownBlock=some b/\k'<=(xs.length+ys.length) * (ty e).sz),upd g k v',v7 ..,?_⟩;refine⟨λb k' hb=>.inl (h.im b k' hb),λb k' hb=>?_,?_,h.kp.trans λb k hbk i hi=>hkp b k (h.im b k hbk) i hi,by simpa [N8] using h.lo,λj hj hr=>?_,λj o hj=>?_,λi j b hi hj hbi hbj=>?_,λj hj=>?_,?_,h.dfr⟩
 ·rcases hb with hb|⟨_,hb,_⟩
  ·exact⟨d4M (h.lt b k' hb).1 hsz,(h.lt b k' hb).2⟩
  ·refine⟨hlt' b hb,λhlt0=>?_⟩
   rcases hmine b hb with h1|h1
   ·omega
   ·exact .inr h1
 ·have hf:=h.fr
  have hos:w'.os=w.os/\w'.tape=w.tape/\w'.output=w.output:=by
   rcases hsp with⟨_,_,_,h3⟩|⟨h3,_⟩
   ·exact⟨h3.os,h3.tape,h3.output⟩
   ·exact⟨h3.os,h3.tape,h3.output⟩
  refine⟨hos.1.trans hf.os,hos.2.1.trans hf.tape,hos.2.2.trans hf.output,d5m hf.size hsz,λb hb hX=>?_⟩;rw[hother b (d4M hb hf.size) λe=>?_]
  ·exact hf.block b hb hX
  ·rcases (hb2 b e).2.2 with h1|h1
   ·omega
   ·exact hX h1
 ·have e:=h.st j hj hr;refine(hg' j λej=>?_).trans e;subst ej;rw[<-e] at hr
  rcases hown.2 with⟨e1,_⟩|⟨_,_,_,e1,_⟩ <;> rw[e1] at hr <;> cases hr
 ·by_cases hjk:k=j
  ·subst hjk;simp only[d4v (show k<(E7 k s.o).length by rw[N8];exact hlt)] at hj;injection hj with hj;subst hj;refine⟨us2++vs,by rw[v7,d3K];exact hown',λr hr=>?_,?_,λb hb=>?_⟩
   ·rcases d4s.1 hr with hr|hr
    ·exact hr2 r hr
    ·exact hys r hr
   ·rw[d53];exact((hd2.append hvs)).mono hI' hkp
   ·rw[v7] at hb;rw[d3K];refine⟨λhz=>.inr ⟨hz,hb,d3Q _⟩,λk' hk'=>?_,hmine b hb⟩
    rcases hk' with hk'|⟨hz,_,hk'⟩
    ·rcases hnew b hb with h1|rfl
     ·have h2:=(hb2 b h1).2.1 _ hk';exact⟨h2.1,d5m h2.2 hlen⟩
     ·exact absurd (h.lt _ _ hk').1 (by omega)
    ·exact⟨hz,hk'⟩
  ·simp only[d4i hjk] at hj;obtain⟨o',ho',hdd,hsh⟩:=a0I k s.o j o hj
   by_cases hd:o=.dead
   ·subst hd;exact True.intro
   have hob:=h.obj j o' ho';have hd':=hdd hd;have hne:∀b,gbl (g j) b->(g k).ownBlock≠some b:=λb hb e=>hjk (h.dis k j b hlk ⟨o',ho',hd'⟩ (hgk.2 e) hb)
   have hkeep:a1k X w0 (λb k'=>I b k'\/(z=true/\v'.ownBlock=some b/\k'<=(xs.length+ys.length) * (ty e).sz)) w' g j o':=by
    refine hob.keep hI' hkp (λb hb=>hother b (hob.blk hd' b hb).1 (hne b hb)) λb hb k' hk'=>?_
    rcases hk' with hk'|⟨_,hk',_⟩
    ·exact hk'
    ·rcases hnew b hk' with h1|rfl
     ·exact absurd h1 (hne b hb)
     ·exact absurd (hob.blk hd' _ hb).1 (by omega)
   rcases hsh with⟨cs,rfl,rfl⟩|⟨ks,rfl,rfl⟩|⟨rfl,hnb,hnf⟩
   ·obtain⟨b,us,t,h1,h2,h3,h4⟩:=hkeep;exact⟨b,us,t,by rw[F0 (d5V hjk)];exact h1,h2,a3k hg' hnp h3,h4⟩
   ·obtain⟨us,h1,h2,h3⟩:=hkeep;refine⟨us,by rw[F0 (d5V hjk)];exact h1,h2,λi u hu=>?_⟩
    by_cases e:i=k
    ·exact .inr (.inr (by rw[e];exact d3L ..))
    ·rcases h3 i u hu with h4|h4|h4
     ·exact .inl h4
     ·exact .inr (.inl (by rw[F0 e];exact h4))
     ·exact .inr (.inr (d3M _ h4))
   ·cases o with
    | dead=>exact True.intro
    | box cs=>exact absurd rfl (hnb cs)
    | kl ks=>exact absurd rfl (hnf ks)
    | mp kt es =>
     obtain⟨b,l,c,h1,h2⟩:=hkeep;exact⟨b,l,c,by rw[F0 (d5V hjk)];exact h1,h2⟩
    | ob T vs =>
     obtain⟨b,h1,h2⟩:=hkeep;exact⟨b,by rw[F0 (d5V hjk)];exact h1,h2⟩
    | it P =>
     obtain⟨A,n,cap,F,h1,h2⟩:=hkeep;exact⟨A,n,cap,F,by rw[F0 (d5V hjk)];exact h1,h2⟩
    | row z2 e2 rows =>
     obtain⟨us,h1,h2,h3,h4⟩:=hkeep;exact⟨us,by rw[F0 (d5V hjk)];exact h1,h2,h3,by rw[F0 (d5V hjk)];exact h4⟩
 ·have live':∀j,U7 ⟨I8 k s.t,(E7 k s.o).set k (.row z e (xs++ys))⟩ j->U7 s j:=λj hj=>by
   obtain⟨o,ho,hd⟩:=hj
   by_cases hjk:k=j
   ·subst hjk;exact hlk
   ·simp only[d4i hjk] at ho;obtain⟨o',ho',hdd,_⟩:=a0I k s.o j o ho;exact⟨o',ho',hdd hd⟩
  have hi':=live' i hi;have hj':=live' j hj;have hv'b:∀ {b},gbl v' b↔v'.ownBlock=some b:=a3m hown'
  have cross:∀j,j≠k->U7 s j->gbl (g j) b->¬gbl v' b:=λj hjk hl hb e=>by
   have e:=hv'b.1 e
   rcases hnew b e with h1|rfl
   ·exact hjk (h.dis j k b hl hlk hb (hgk.2 h1))
   ·have:=h.blk_lt hl hb;omega
  by_cases hik:i=k <;> by_cases hjk:j=k
  ·rw[hik,hjk]
  ·subst hik;rw[v7] at hbi;rw[F0 hjk] at hbj;exact absurd hbi (cross j hjk hj' hbj)
  ·subst hjk;rw[v7] at hbj;rw[F0 hik] at hbi;exact absurd hbj (cross i hik hi' hbi)
  ·rw[F0 hik] at hbi;rw[F0 hjk] at hbj;exact h.dis i j b hi' hj' hbi hbj
 ·simp only[d4k,N8] at hj;rw[F0 (by omega)];exact h.out j hj
 ·exact(a4t hg' hnp h.tmp).mono hI' hkp
end
end
section
theorem a2G {t:Nat} (h:j9 t=true):∃x z,Tryz.prog.info? t=some x/\x.size=(ty t).sz/\x.zero=some z/\z.cells=(ty t).zero.toArray/\(ty t).zero.length=(ty t).sz/\x.bytes<=1024:=by
 have hk:=a5o t h;have hi:=hk.info;have hb:=hk.bytes;cases hx:Tryz.prog.info? t with
 | none=>rw[hx] at hi;cases hi
 | some x =>
  rw[hx] at hi hb;simp only[d5c,Option.some.injEq,Prod.mk.injEq] at hi;cases hz:x.zero with
  | none=>rw[hz] at hi;simp at hi
  | some z =>
   rw[hz] at hi;simp only[d5c,Option.some.injEq] at hi;refine⟨x,z,rfl,hi.1,hz,hi.2,hk.len,?_⟩
   simpa using hb
theorem Z2 {t:Nat} (h:j9 t=true) (w:World):(sizeOf t).run Tryz.prog w=.ok (ty t).sz w:=by
 obtain⟨x,z,h1,h2,_⟩:=a2G h
 simp[sizeOf,typeInfo,h1,h2]
theorem a88 {t:Nat} (h:j9 t=true) (w:World):∃z,(zeroValue t).run Tryz.prog w=.ok z w/\z.cells=(ty t).zero.toArray:=by
 obtain⟨x,z,h1,_,h3,h4,_⟩:=a2G h;exact⟨z,by simp[zeroValue,typeInfo,h1,h3],h4⟩
theorem b27 {t:Nat} (h:j9 t=true) (w:World):(isAgg t).run Tryz.prog w=.ok (ty t).agg w:=by
 have hk:=(a5o t h).agg;cases hu:Tryz.prog.underlying t with
 | none=>rw[hu] at hk;cases hk
 | some d =>
  rw[hu] at hk;have:=run_underlying hu w;cases d <;> simp only[b3E,Option.some.injEq] at hk <;> simp[isAgg,this,<-hk]
theorem K5 {t e:Nat} (h:j9 t=true) (he:(ty t).elem=some e):Tryz.prog.underlying t=some (.slice e):=by
 have hk:=a5o t h;have h1:=hk.elem;have h2:=hk.under;unfold a2h at h2;cases hkind:(ty t).kind <;> rw[hkind] at h1 h2 <;> simp only[he,Option.isNone_some] at h1 h2 <;> first|exact h2.1|exact absurd h1 (by decide)
theorem a5E {t:Nat} (h:j9 t=true) (he:(ty t).kind=.str):Tryz.prog.underlying t=some .string:=by
 have h2:=(a5o t h).under;unfold a2h at h2;rw[he] at h2;exact h2
theorem a5F {t:Nat} {k:IntKind} (h:j9 t=true) (he:(ty t).kind=.int k):Tryz.prog.underlying t=some (.int k):=by
 have h2:=(a5o t h).under;unfold a2h at h2;rw[he] at h2;exact h2
theorem b5H {t:Nat} (h:j9 t=true) (he:(ty t).kind=.ptr):∃e,Tryz.prog.underlying t=some (.pointer e):=by
 have h2:=(a5o t h).under;unfold a2h at h2;rw[he] at h2;obtain⟨h3,h4⟩:=h2;cases hv:(ty t).val with
 | none=>rw[hv] at h4;cases h4
 | some e=>rw[hv] at h3;exact⟨e,h3⟩
theorem b7f {t:Nat} (h:j9 t=true) (he:(ty t).kind=.bool):Tryz.prog.underlying t=some .bool:=by
 have h2:=(a5o t h).under;unfold a2h at h2;rw[he] at h2;exact h2
theorem a9e {t e:Nat} (h:j9 t=true) (he:(ty t).kind=.array) (hv:(ty t).val=some e):Tryz.prog.underlying t=some (.array (ty t).alen e):=by
 have h2:=(a5o t h).under;unfold a2h at h2;rw[he] at h2;obtain⟨h3,h4⟩:=h2;rw[hv] at h3;exact h3
theorem c1f {t k e:Nat} (h:j9 t=true) (he:(ty t).kind=.map) (hk:(ty t).key=some k) (hv:(ty t).val=some e):Tryz.prog.underlying t=some (.map k e):=by
 have h2:=(a5o t h).under;unfold a2h at h2;rw[he] at h2;obtain⟨h3,h4⟩:=h2;rw[hk,hv] at h3;exact h3
theorem a7p {t:Nat} (h:j9 t=true) (he:(ty t).kind=.struct):∃fs,Tryz.prog.underlying t=some (.struct fs)/\fs.toList.map (λf=>(f.offset,(Tryz.prog.info? f.type).map (·.size)))=(ty t).flds.map (λx=>(x.1,some x.2))/\fs.toList.map (·.type)=(ty t).fty:=by
 have h2:=(a5o t h).under;unfold a2h at h2;rw[he] at h2;simp only at h2;cases hu:Tryz.prog.underlying t with
 | none=>rw[hu] at h2;cases h2
 | some d =>
  rw[hu] at h2;cases d <;> first|cases h2|skip
  rename_i fs;simp only[b59,Option.some.injEq,Prod.mk.injEq] at h2;exact⟨fs,rfl,h2.1,h2.2⟩
theorem c1g {t i off sz:Nat} (h:j9 t=true) (hf:(ty t).flds[i]?=some (off,sz)):∃fs f,Tryz.prog.underlying t=some (.struct fs)/\fs[i]?=some f/\f.offset=off/\(Tryz.prog.info? f.type).map (·.size)=some sz/\(ty t).fty[i]?=some f.type/\(ty t).kind=.struct:=by
 have hk:=a5o t h
 have hst:(ty t).kind=.struct:=by
  have h1:=hk.flds;cases hkind:(ty t).kind <;> rw[hkind] at h1 <;> first|rfl|skip
  all_goals
   simp only[d6g] at h1;rw[h1] at hf
   simp at hf
 obtain⟨fs,h1,h2,h3⟩:=a7p h hst;have h4:=congrArg (·[i]?) h2;simp only[d4p,hf,d5c] at h4;cases hfi:fs.toList[i]? with
 | none=>rw[hfi] at h4;cases h4
 | some f =>
  rw[hfi] at h4;simp only[d5c,Option.some.injEq,Prod.mk.injEq] at h4;refine⟨fs,f,h1,by rw[<-d4B];exact hfi,h4.1,h4.2,?_,hst⟩;rw[<-h3,d4p,hfi];rfl
theorem a3n {α:Type} {n:Nat} {l:List α} {x:α} (h:Q9 1 (Z0 n l)=some [x]):l[n]?=some x:=by
 rw[a17] at h;obtain⟨h1,_⟩:=a18 h;have:=congrArg (·[0]?) h1;simp only[d5U,d4y,Nat.zero_lt_one,d5R,d4r,d4E] at this;exact this.symm
section
variable {I:Nat->Nat->Prop} {g:Nat->Value} {w:World}
theorem b28 {b:Bool} {l:List V} {x:V} {us:List Value} (hu:o7 I w g us l) (hp:a3h b l=some x):AtV I w g (if b=true then .agg us.toArray else us.getD 0 undef) x/\(b=false->us.length=1):=by
 cases b with
 | true =>
  rw[a3h] at hp;injection hp with hp;subst hp;exact⟨Z6 hu,by simp⟩
 | false =>
  match l,hp with
  | [y],hp =>
   rw[a3h] at hp;injection hp with hp;subst hp;obtain⟨u,us',rfl,h1,h2⟩:=hu.uncons;rw[h2.unnil];exact⟨h1,λ_=>rfl⟩
theorem b29 {t b p:Nat} (ht:j9 t=true) {us:List Value} {l:List V} {x:V} (hl:us.length=(ty t).sz) (hc:∀j u,us[j]?=some u->w.cell? ⟨b,p+j,none⟩=some u) (hu:o7 I w g us l) (hp:a3h (ty t).agg l=some x) :
  ∃v,(Instr.loadAt t (.pointer (some ⟨b,p,none⟩))).run Tryz.prog w=.ok v w/\AtV I w g v x:=by
 obtain⟨hx,h1⟩:=b28 hu hp;refine⟨_,?_,hx⟩;simp only[Instr.loadAt,Instr.sureAddr,loadVar,Sem.run_bind,Sem.run_pure,Result.andThen_ok,b27 ht];cases ha:(ty t).agg with
 | true =>
  simp only[d5R,Sem.run_bind,Z2 ht,Result.andThen_ok,Sem.run_pure];rw[<-hl,run_loadCells_list (P:=Tryz.prog) w ⟨b,p,none⟩ us (λj v hv=>by rw[Addr.add_lit];exact hc j v hv)];rfl
 | false =>
  have h2:=h1 ha
  match us,h2 with
  | [u],_ =>
   have h3:=hc 0 u rfl;simp only[d4E] at h3
   simp[h3]
end
end
section
def a5G (I:Nat->Nat->Prop) (w:World):List Value->List R->Prop
 | [],[]=>True
 | v::vs,r::rs=>AtR I w v r/\a5G I w vs rs
 | _,_=>False
def a3o (I:Nat->Nat->Prop) (w:World) (v:Value):List R->Prop
 | [r]=>AtR I w v r
 | rs=>∃us,v=.tuple us.toArray/\a5G I w us rs
def nxt (I:Nat->Nat->Prop) (w w':World) (b h:Nat):Prop:=I b h\/(w.heap.size<=b/\b<w'.heap.size)
def a3p (P:Program) (f:Nat):Bool:=match P.funcs[f]? with|some fn=>fn.name != "runtime.NumGoroutine" && fn.body.isSome|none=>false
def o8 (f:Nat) (rs q:List R):Prop:=a3p Tryz.prog f=true/\∀(I:Nat->Nat->Prop) (w:World) (args:List Value),Wld I w->a5G I w args rs ->
 Calls Tryz.prog f args.toArray w λe w'=>∃v,e=.returned v/\a3o (nxt I w w') w' v q/\Below w.heap.size w w'
theorem a5G.mono {I I':Nat->Nat->Prop} {w w':World} (hI:∀b h,I b h->I' b h) (hk:C3 I w w'):∀ {vs:List Value} {rs:List R},a5G I w vs rs->a5G I' w' vs rs
 | [],[],_=>trivial
 | _::_,_::_,h=>⟨h.1.mono hI hk,h.2.mono hI hk⟩
 | [],_::_,h=>h.elim
 | _::_,[],h=>h.elim
theorem a5G.len {I:Nat->Nat->Prop} {w:World}:∀ {vs:List Value} {rs:List R},a5G I w vs rs->vs.length=rs.length
 | [],[],_=>rfl
 | _::_,_::_,h=>by simp[h.2.len]
 | [],_::_,h=>h.elim
 | _::_,[],h=>h.elim
theorem a89 {I:Nat->Nat->Prop} {w:World} (g:Nat->Value) {v:Value} {r:R} (h:AtR I w v r):AtV I w g v (c0N r):=by
 cases r with
 | one x=>exact .d h
 | ag xs=>obtain⟨us,rfl,h2⟩:=h;exact Z6 (h2.toV g)
theorem a6n {I:Nat->Nat->Prop} {w:World} (g:Nat->Value):∀ {vs:List Value} {rs:List R},a5G I w vs rs->o7 I w g vs (b3F rs)
 | [],[],_=>.nil I w g
 | _::_,_::_,h=>.cons (a89 g h.1) (a6n g h.2)
 | [],_::_,h=>h.elim
 | _::_,[],h=>h.elim
theorem b7g {I:Nat->Nat->Prop} {w:World} (g:Nat->Value) {v:Value} {rs:List R} (h:a3o I w v rs):AtV I w g v (b8W rs):=by
 match rs,h with
 | [],h=>obtain⟨us,rfl,h2⟩:=h;exact a2U (a6n g h2)
 | [r],h=>exact a89 g h
 | r::r'::rs,h=>obtain⟨us,rfl,h2⟩:=h;exact a2U (a6n g h2)
section
variable {I0:Nat->Nat->Prop} {X:Nat->Prop} {w0:W0} {I:Nat->Nat->Prop} {g:Nat->Value} {s:S} {a:Act} {w:World}
theorem a9f (h:RelI I0 X w0 I g s a w) {v:Value} {x:V} {d:D} (hv:AtV I w g v x) (hd:toD s.o x=some d):AtD I w v d:=by
 cases x with
 | d x=>rw[toD] at hd;injection hd with hd;subst hd;cases hv with|d h=>exact h
 | em=>rw[toD] at hd;injection hd with hd;subst hd;cases hv;exact .nil _ _ _
 | own k =>
  rw[toD] at hd
  split at hd
  ·rename_i e rows ho;injection hd with hd;subst hd;have hk:=C7 ho (by simp);obtain⟨us,h1,h2,h3,h4⟩:=h.obj k _ hk;cases hv with
   | own k A n cap hg =>
    rw[a2V h1] at hg
    rcases h1.2 with⟨e1,e2⟩|⟨g1,cap1,cur,e1,_,hh,hnc,_⟩
    ·rw[hg] at e1;injection e1 with e1 e3 e4;subst e1;subst e3;subst e4;rw[d4h e2];exact .nil _ _ _
    ·rw[hg] at e1;injection e1 with e1 e3 e4;subst e1;subst e3;subst e4;refine .sl g1 0 cap _ rows us hnc ?_ h2 h1.1 (λi u hu=>?_) h3.2
     ·rw[d4L];exact⟨_,d3Q _,(h4 g1 (by rw[hg];rfl)).1 rfl⟩
     ·rw[d4L];have hlt:i<rows.length * (ty e).sz:=by rw[<-h1.1];exact(d3J.1 hu).1
      rw[hg] at h1;rw[World.ownsRow.cellAt h1 i hlt,hu]
  ·cases hd
 | ag cs=>rw[toD] at hd <;> first|cases hd|simp
 | tu cs=>rw[toD] at hd <;> first|cases hd|simp
 | ptr k off=>rw[toD] at hd <;> first|cases hd|simp
 | cl f ks =>
  cases ks with
  | nil =>
   rw[toD] at hd;injection hd with hd;subst hd;cases hv with
   | cl f us ks hl h =>
    rw[d4h hl];exact .sc _ rfl
  | cons k ks=>rw[toD] at hd <;> first|cases hd|simp
 | el k i sz off=>rw[toD] at hd <;> first|cases hd|simp
 | ro cs off=>rw[toD] at hd <;> first|cases hd|simp
 | mp k=>rw[toD] at hd <;> first|cases hd|simp
 | bs k n=>rw[toD] at hd <;> first|cases hd|simp
 | jk=>rw[toD] at hd <;> first|cases hd|simp
theorem a6o (h:RelI I0 X w0 I g s a w):∀ {xs:List V} {vs:List Value} {ds:List D},o7 I w g vs xs->a5D s.o xs=some ds->F8 I w vs ds
 | [],vs,ds,hv,hd=>by
  rw[a5D] at hd;injection hd with hd;subst hd;rw[hv.unnil];exact .nil I w
 | x::xs,vs,ds,hv,hd=>by
  obtain⟨u,us,rfl,h1,h2⟩:=hv.uncons;rw[a5D] at hd
  split at hd
  ·rename_i y hy
   split at hd
   ·rename_i ys hys;injection hd with hd;subst hd;exact .cons (a9f h h1 hy) (a6o h h2 hys)
   ·cases hd
  ·cases hd
theorem a7q (h:RelI I0 X w0 I g s a w) {v:Value} {x:V} {r:R} (hv:AtV I w g v x) (hr:toR s.o x=some r):AtR I w v r:=by
 by_cases hx:∃l,x=.ag l
 ·obtain⟨l,rfl⟩:=hx;rw[toR] at hr
  split at hr
  ·rename_i ys hys;injection hr with hr;subst hr;obtain⟨us,rfl,h2⟩:=hv.unag;exact⟨us,rfl,a6o h h2 hys⟩
  ·cases hr
 ·rw[toR] at hr
  ·split at hr
   ·rename_i y hy;injection hr with hr;subst hr;exact a9f h hv hy
   ·cases hr
  ·exact λl e=>hx ⟨l,e⟩
theorem b2A (h:RelI I0 X w0 I g s a w):∀ {xs:List V} {vs:List Value} {rs:List R},o7 I w g vs xs->b0W s.o xs=some rs->a5G I w vs rs
 | [],vs,rs,hv,hd=>by
  rw[b0W] at hd;injection hd with hd;subst hd;rw[hv.unnil]
  trivial
 | x::xs,vs,rs,hv,hd=>by
  obtain⟨u,us,rfl,h1,h2⟩:=hv.uncons;rw[b0W] at hd
  split at hd
  ·rename_i y hy
   split at hd
   ·rename_i ys hys;injection hd with hd;subst hd;exact⟨a7q h h1 hy,b2A h h2 hys⟩
   ·cases hd
  ·cases hd
end
def a8d:List V->List V->Prop
 | [],[]=>True
 | _::l,.jk::m=>a8d l m
 | x::l,y::m=>x=y/\a8d l m
 | _,_=>False
def b9b:List Nat->List Nat->Bool
 | [],_=>true
 | k::l,m=>match b0Y k m with|true=>b9b l m|false=>false
def a5v:List O->List O->Prop
 | _,[]=>True
 | .box cs::l,.box ds::m=>a8d cs ds/\a5v l m
 | .row z e r::l,.row z' e' r'::m=>(z=z'/\e=e'/\r=r')/\a5v l m
 | .mp k es::l,.mp k' es'::m=>(k=k'/\es=es')/\a5v l m
 | .kl ks::l,.kl ks'::m=>b9b ks ks'=true/\a5v l m
 | .it P::l,.it P'::m=>P=P'/\a5v l m
 | .ob T vs::l,.ob T' vs'::m=>(T=T'/\vs=vs')/\a5v l m
 | _::l,.dead::m=>a5v l m
 | _,_=>False
def b9c (n:Nat):List Nat->Bool
 | []=>true
 | k::l=>match Nat.blt k n with|true=>b9c n l|false=>false
def a4l (n:Nat):V->Bool
 | .own k=>Nat.blt k n
 | .ptr k _=>Nat.blt k n
 | .cl _ ks=>b9c n ks
 | .el k _ _ _=>Nat.blt k n
 | .mp k=>Nat.blt k n
 | .bs k _=>Nat.blt k n
 | .ag _=>false
 | .tu _=>false
 | _=>true
def a9g (n:Nat):List V->Bool
 | []=>true
 | x::l=>match a4l n x with|true=>a9g n l|false=>false
def c8e (n:Nat):V->Bool
 | .ag cs=>a9g n cs
 | .tu []=>true
 | .tu _=>false
 | x=>a4l n x
def b0Z (n:Nat):List V->Bool
 | []=>true
 | x::l=>match c8e n x with|true=>b0Z n l|false=>false
def a3q (n:Nat):List O->Bool
 | []=>true
 | .box cs::l=>match a9g n cs with|true=>a3q n l|false=>false
 | _::l=>a3q n l
def weak (s s':S):Prop:=a8d s.t s'.t/\a5v s.o s'.o/\b0Z (w8 s'.o) s'.t=true/\a3q (w8 s'.o) s'.o=true
theorem b2B {n:Nat}:∀ {ks:List Nat} {i k:Nat},b9c n ks=true->ks[i]?=some k->k<n
 | [],i,k,_,hk=>by simp at hk
 | x::ks,i,k,h,hk=>by
  rw[b9c] at h
  split at h
  ·rename_i hx;cases i with
   | zero=>simp at hk;subst hk;simpa [d4W] using hx
   | succ i=>exact b2B h (by simpa using hk)
  ·cases h
theorem a6p {n:Nat}:∀ {l:List O} {k:Nat} {cs:List V},a3q n l=true->l[k]?=some (.box cs)->a9g n cs=true
 | [],k,cs,_,h=>by simp at h
 | x::l,k,cs,hl,h=>by
  cases k with
  | zero =>
   simp at h
   subst h;rw[a3q] at hl
   split at hl
   ·assumption
   ·cases hl
  | succ k =>
   refine a6p (l:=l) (k:=k) ?_ (by simpa using h);cases x with
   | box ds =>
    rw[a3q] at hl
    split at hl
    ·exact hl
    ·cases hl
   | row z e r=>exact hl
   | mp kt es=>exact hl
   | kl ks=>exact hl
   | it P=>exact hl
   | ob T vs=>exact hl
   | dead=>exact hl
def a7r (t:Nat):Bool:=match (ty t).elem with|some e=>j9 e|none=>true
def b3P (t:Nat):Bool:=match (ty t).kind with
 | .array=>match (ty t).val with|some e=>j9 e|none=>true
 | _=>true
def c8f (t:Nat):Bool:=match (ty t).kind with|.ptr=>j9 t|.bool=>j9 t|.slice=>j9 t && (ty t).elem.isSome|.struct=>j9 t && (ty t).fty.all j9|_=>true
def a9h (t:Nat):Bool:=match (ty t).key,(ty t).val with
 | some k,some e=>j9 k && j9 e && (ty k).fty.all j9
 | _,_=>false
def a4v (t:Nat):Bool:=match (ty t).elem with
 | some e=>j9 e && (match (ty e).kind with|.int k=>keq k .u8|_=>false)
 | none=>false
def a7s (t u:Nat):Bool:=(a3C (a15 (ty t).kind) || a3C (b3H (ty u).kind) || a4v t) && (a3C (b3H (ty t).kind) || a3C (a15 (ty u).kind) || a4v u)
def a1A (P:Program):Op->Bool
 | .load t _=>j9 t
 | .store t _ _=>j9 t
 | .fieldAddr t _ _=>j9 t
 | .field t _ _=>j9 t && (ty t).fty.all j9
 | .indexAddr t _ _=>(j9 t && a7r t) && b3P t
 | .index t _ _=>j9 t && b3P t
 | .binOp _ t _ _ _=>c8f t
 | .lookup t _ _ _=>j9 t && a9h t
 | .mapUpdate t _ _ _=>j9 t && a9h t
 | .convert t u _=>j9 t && j9 u && a7s t u
 | .build t _=>j9 t && b3P t
 | .buildSlice t n _=>(j9 t && Nat.ble n 16777216) && match (ty t).elem with|some e=>j9 e && Nat.ble (n * (ty e).sz) 16777216|none=>true
 | .slice t _ _ _ _=>j9 t && a7r t
 | .makeSlice t _ _=>j9 t && a7r t
 | .alloc e=>j9 e
 | .box e _=>j9 e
 | .call ⟨.builtin .len,_,⟨[t]⟩⟩=>j9 t
 | .call ⟨.builtin .append,_,⟨[t,u]⟩⟩=>j9 t && a7r t && Y5 t u && match (ty t).elem with|some e=>Nat.blt 0 (ty e).sz|none=>true
 | .call ⟨.value (.func f),_,_⟩=>a3p P f
 | .defer _=>false
 | _=>true
end
section
def Xof (g:Nat->Value) (os:List O) (b:Nat):Prop:=∃k o,os[k]?=some o/\o≠.dead/\gbl (g k) b
def pkg:List Value->Value
 | [v]=>v
 | vs=>.tuple vs.toArray
def y7 (f:Nat) (vs:List V) (os:List O) (Q:List V->List O->Prop):Prop:=a3p Tryz.prog f=true/\∀(I:Nat->Nat->Prop) (w:World) (g:Nat->Value) (args:List Value),
 RelI I (Xof g os) ⟨w,g,os.length,[]⟩ I g ⟨vs,os⟩ { tmps:=args.toArray,defers:=[] } w ->
 Calls Tryz.prog f args.toArray w λe w'=>∃us res os2 I' g',e=.returned (pkg us)/\Q res os2/\RelI I (Xof g os) ⟨w,g,os.length,[]⟩ I' g' ⟨res,os2⟩ { tmps:=us.toArray,defers:=[] } w'
section
variable {I0:Nat->Nat->Prop} {X:Nat->Prop} {w0:W0} {I:Nat->Nat->Prop} {g:Nat->Value} {s:S} {a:Act} {w:World}
theorem a9i:∀ {ks:List Nat} {n j:Nat},j<ks.length->ks[j]?=some (upN ks n j)
 | [],n,j,h=>by simp at h
 | k::ks,n,0,_=>rfl
 | k::ks,n,j+1,h=>by rw[upN];simpa using a9i (n:=n) (by simpa using h)
theorem b5I:∀ {ks:List Nat} {n j:Nat},ks.length<=j->upN ks n j=n+(j - ks.length)
 | [],n,j,h=>by rw[upN];simp
 | k::ks,n,0,h=>by simp at h
 | k::ks,n,j+1,h=>by rw[upN,b5I (by simpa using h)];simp
theorem b2C {ks:List Nat} {n:Nat}:∀(l:List Nat) (i:Nat),(upK ks n l)[i]?=(l[i]?).map (upN ks n)
 | [],i=>by simp[upK]
 | j::l,0=>by simp[upK]
 | j::l,i+1=>by simpa [upK] using b2C l i
theorem b2D {ks:List Nat} {n:Nat}:∀l:List Nat,(upK ks n l).length=l.length
 | []=>rfl
 | j::l=>by simp[upK,b2D l]
theorem a5w {g1:Nat->Value} {ks:List Nat} {n m:Nat} (hg:∀j,j<m->g1 j=g (upN ks n j)) {v:Value} {x:V} (h:AtV I w g v (up1 ks n x)) (hl:a4l m x=true):AtV I w g1 v x:=by
 cases x with
 | d x=>exact(by cases h with|d h=>exact .d h)
 | ag cs=>cases hl
 | tu cs=>cases hl
 | em=>cases h;exact .em
 | own j =>
  cases h with
  | own k A n cap h=>exact .own j A n cap ((congrArg gv (hg j (by simpa [a4l,d4W] using hl))).trans h)
 | ptr j off =>
  cases h with
  | ptr k off b h=>exact .ptr j off b ((hg j (by simpa [a4l,d4W] using hl)).trans h)
 | cl f l =>
  cases h with
  | cl f us ks' hlen h =>
   rw[a4l] at hl;refine .cl f us l (by rw[hlen,b2D]) λi u k hu hk=>?_
   have h1:=h i u (upN ks n k) hu (by rw[b2C,hk];rfl);have h2:=hg k (b2B hl hk);rw[h2];exact h1
 | el j i sz off =>
  cases h with
  | el k i sz off b n cap h=>exact .el j i sz off b n cap ((hg j (by simpa [a4l,d4W] using hl)).trans h)
 | ro cs off=>cases h with|ro b o off us cs hi hc hd=>exact .ro b o off us cs hi hc hd
 | mp j =>
  cases h with
  | mp k b h=>exact .mp j b ((hg j (by simpa [a4l,d4W] using hl)).trans h)
 | bs j m' =>
  cases h with
  | bs k n' b cap h hn=>exact .bs j m' b cap ((hg j (by simpa [a4l,d4W] using hl)).trans h) hn
 | jk=>exact .jk _
theorem b7h {g1:Nat->Value} {ks:List Nat} {n m:Nat} (hg:∀j,j<m->g1 j=g (upN ks n j)):∀ {cs:List V} {us:List Value},o7 I w g us (upL ks n cs)->a9g m cs=true->o7 I w g1 us cs
 | [],us,h,_=>by rw[upL] at h;rw[h.unnil];exact .nil I w g1
 | c::cs,us,h,hl=>by
  rw[upL] at h;obtain⟨u,us',rfl,h1,h2⟩:=h.uncons;rw[a9g] at hl
  split at hl
  ·rename_i hc;exact .cons (a5w hg h1 hc) (b7h hg h2 hl)
  ·cases hl
theorem c1h {g1:Nat->Value} {ks:List Nat} {n m:Nat} (hg:∀j,j<m->g1 j=g (upN ks n j)):∀ {cs:List V} {us:List Value},o7 I w g us (upT ks n cs)->b0Z m cs=true->o7 I w g1 us cs
 | [],us,h,_=>by rw[upT] at h;rw[h.unnil];exact .nil I w g1
 | c::cs,us,h,hl=>by
  rw[upT] at h;obtain⟨u,us',rfl,h1,h2⟩:=h.uncons;rw[b0Z] at hl
  split at hl
  ·rename_i hc;refine .cons ?_ (c1h hg h2 hl);cases c with
   | ag l=>obtain⟨vs,rfl,h3⟩:=AtV.unag h1;exact Z6 (b7h hg h3 hc)
   | tu l =>
    cases l with
    | nil =>
     obtain⟨vs,rfl,h3⟩:=AtV.untu h1;rw[h3.unnil];exact a2U (.nil I w g1)
    | cons c l=>cases hc
   | d x=>exact a5w hg h1 hc
   | em=>exact a5w hg h1 hc
   | own k=>exact a5w hg h1 hc
   | ptr k off=>exact a5w hg h1 hc
   | cl f l=>exact a5w hg h1 hc
   | el k i sz off=>exact a5w hg h1 hc
   | ro l off=>exact a5w hg h1 hc
   | mp k=>exact a5w hg h1 hc
   | bs k n=>exact a5w hg h1 hc
   | jk=>exact .jk _
  ·cases hl
theorem c1i {g1:Nat->Value} {ks:List Nat} {n:Nat} (hg:∀j,g1 j≠.nilFunc->g (upN ks n j)=g1 j) {v:Value} {x:V} (h:AtV I w g1 v x):AtV I w g v (up1 ks n x):=by
 cases h with
 | d h=>exact .d h
 | ag=>exact .jk _
 | tu=>exact .jk _
 | em=>exact .em
 | own j A m cap h=>exact .own _ A m cap ((congrArg gv (hg j (by intro e;rw[e] at h;cases h))).trans h)
 | ptr j off b h=>exact .ptr _ off b ((hg j (by rw[h];simp)).trans h)
 | cl f us l hl h =>
  refine .cl f us _ (by rw[b2D];exact hl) λi u k hu hk=>?_
  rw[b2C] at hk;obtain⟨j,hj,rfl⟩:=d4S.1 hk;obtain⟨h1,b,h2⟩:=h i u j hu hj;have h3:=hg j (by rw[h2];simp);exact⟨h1.trans h3.symm,b,h3.trans h2⟩
 | el j i sz off b m cap h=>exact .el _ i sz off b m cap ((hg j (by rw[h];simp)).trans h)
 | ro b o off us cs hi hc hd=>exact .ro b o off us cs hi hc hd
 | mp j b h=>exact .mp _ b ((hg j (by rw[h];simp)).trans h)
 | bs j m' b cap h hn=>exact .bs _ m' b cap ((hg j (by rw[h];simp)).trans h) hn
 | jk v=>exact .jk v
theorem c1j {g1:Nat->Value} {ks:List Nat} {n:Nat} (hg:∀j,g1 j≠.nilFunc->g (upN ks n j)=g1 j):∀ {cs:List V} {us:List Value},o7 I w g1 us cs->o7 I w g us (upL ks n cs)
 | [],us,h=>by rw[h.unnil];exact .nil I w g
 | c::cs,us,h=>by
  obtain⟨u,us',rfl,h1,h2⟩:=h.uncons;exact .cons (c1i hg h1) (c1j hg h2)
theorem d06 {g1:Nat->Value} {ks:List Nat} {n:Nat} (hg:∀j,g1 j≠.nilFunc->g (upN ks n j)=g1 j) {v:Value} {x:V} (h:AtV I w g1 v x):AtV I w g v (up2 ks n x):=by
 cases x with
 | ag l=>obtain⟨vs,rfl,h3⟩:=AtV.unag h;exact Z6 (c1j hg h3)
 | tu l =>
  cases l with
  | nil =>
   obtain⟨vs,rfl,h3⟩:=AtV.untu h;rw[h3.unnil];exact a2U (.nil I w g)
  | cons c l=>exact c1i hg h
 | _=>exact c1i hg h
theorem c7w {g1:Nat->Value} {ks:List Nat} {n:Nat} (hg:∀j,g1 j≠.nilFunc->g (upN ks n j)=g1 j):∀ {cs:List V} {us:List Value},o7 I w g1 us cs->o7 I w g us (upT ks n cs)
 | [],us,h=>by rw[h.unnil];exact .nil I w g
 | c::cs,us,h=>by
  obtain⟨u,us',rfl,h1,h2⟩:=h.uncons;exact .cons (d06 hg h1) (c7w hg h2)
theorem c1k:∀ {vs:List V} {us:List Value},o7 I w g us vs->AtV I w g (pkg us) (a1i vs)
 | [],us,h=>by rw[h.unnil];exact a2U (.nil I w g)
 | [v],us,h=>by
  obtain⟨u,us',rfl,h1,h2⟩:=h.uncons;rw[h2.unnil];exact h1
 | v::v'::vs,us,h=>by
  obtain⟨u,us',rfl,h1,h2⟩:=h.uncons;obtain⟨u',us'',rfl,h3,h4⟩:=h2.uncons;exact a2U h
def b2E:List Nat->List V->List V
 | [],t=>t
 | k::ks,t=>b2E ks (E6 k t)
theorem b1p {g2:Nat->Value}:∀(ks:List Nat) (g:Nat->Value) {cs:List V} {us:List Value},(∀j,j∉ks->g2 j=g j)->(∀j,a0H (g j)=true->g2 j=g j)->o7 I w g us cs->o7 I w g2 us (b2E ks cs)
 | [],g,cs,us,hg,hp,h=>by
  have:g2=g:=funext λj=>hg j (by simp)
  subst this;exact h
 | k::ks,g,cs,us,hg,hp,h=>by
  refine b1p ks (upd g k (g2 k)) (λj hj=>?_) (λj hb=>?_) (a3k (k:=k) (λj hj=>F0 hj) (λha=>by rw[v7];exact hp k ha) h)
  ·by_cases e:j=k
   ·subst e;rw[v7]
   ·rw[F0 e];exact hg j (by simp[e,hj])
  ·by_cases e:j=k
   ·subst e;rw[v7]
   ·rw[F0 e] at hb ⊢;exact hp j hb
theorem a7t {g2:Nat->Value}:∀(ks:List Nat) (g:Nat->Value) {cs:List V} {us:List Value},(∀j,j∉ks->g2 j=g j)->(∀j,a0H (g j)=true->g2 j=g j)->o7 I w g us cs->o7 I w g2 us (E5 ks cs)
 | [],g,cs,us,hg,hp,h=>by
  have:g2=g:=funext λj=>hg j (by simp)
  subst this;exact h
 | k::ks,g,cs,us,hg,hp,h=>by
  refine a7t ks (upd g k (g2 k)) (λj hj=>?_) (λj hb=>?_) (a4t (k:=k) (λj hj=>F0 hj) (λha=>by rw[v7];exact hp k ha) h)
  ·by_cases e:j=k
   ·subst e;rw[v7]
   ·rw[F0 e];exact hg j (by simp[e,hj])
  ·by_cases e:j=k
   ·subst e;rw[v7]
   ·rw[F0 e] at hb ⊢;exact hp j hb
def a9j:List Nat->List Nat->List Nat
 | [],l=>l
 | k::ks,l=>a9j ks (k::l)
theorem a5H:∀ {ks l:List Nat} {j:Nat},j∈ks\/j∈l->j∈a9j ks l
 | [],l,j,h=>h.resolve_left (by simp)
 | k::ks,l,j,h=>by
  rw[a9j];refine a5H ?_
  rcases h with h|h
  ·rcases d3R.1 h with rfl|h
   ·exact .inr (d3L ..)
   ·exact .inl h
  ·exact .inr (d3M _ h)
theorem a5I:∀(ks:List Nat) (l:List O) (j:Nat) (o:O),(a0C ks l)[j]?=some o->∃o',l[j]?=some o'/\(o≠.dead->o'≠.dead)/\((∃cs,o'=.box cs/\o=.box (b2E ks cs))\/(∃js,o'=.kl js/\o=.kl (a9j ks js))\/(o=o'/\(∀cs,o≠.box cs)/\∀js,o≠.kl js))
 | [],l,j,o,h=>⟨o,h,λh=>h,by
  cases o with
  | box cs=>exact .inl ⟨cs,rfl,rfl⟩
  | kl js=>exact .inr (.inl ⟨js,rfl,rfl⟩)
  | row z e r=>exact .inr (.inr ⟨rfl,by simp,by simp⟩)
  | mp kt es=>exact .inr (.inr ⟨rfl,by simp,by simp⟩)
  | it P=>exact .inr (.inr ⟨rfl,by simp,by simp⟩)
  | ob T vs=>exact .inr (.inr ⟨rfl,by simp,by simp⟩)
  | dead=>exact .inr (.inr ⟨rfl,by simp,by simp⟩)⟩
 | k::ks,l,j,o,h=>by
  obtain⟨o1,h1,h2,h3⟩:=a5I ks (E7 k l) j o h;obtain⟨o2,h4,h5,h6⟩:=a0I k l j o1 h1;refine⟨o2,h4,λhd=>h5 (h2 hd),?_⟩
  rcases h3 with⟨cs,rfl,rfl⟩|⟨cs,rfl,rfl⟩|⟨rfl,hb,hf⟩
  ·rcases h6 with⟨cs',rfl,e⟩|⟨cs',rfl,e⟩|⟨rfl,hb,_⟩
   ·injection e with e;subst e;exact .inl ⟨cs',rfl,rfl⟩
   ·cases e
   ·exact absurd rfl (hb cs)
  ·rcases h6 with⟨cs',rfl,e⟩|⟨cs',rfl,e⟩|⟨rfl,_,hb⟩
   ·cases e
   ·injection e with e;subst e;exact .inr (.inl ⟨cs',rfl,rfl⟩)
   ·exact absurd rfl (hb cs)
  ·rcases h6 with⟨cs',rfl,e⟩|⟨cs',rfl,e⟩|⟨rfl,_,_⟩
   ·exact absurd e (hb _)
   ·exact absurd e (hf _)
   ·exact .inr (.inr ⟨rfl,hb,hf⟩)
theorem U8:∀(ks:List Nat) (l:List O),(a0C ks l).length=l.length
 | [],l=>rfl
 | k::ks,l=>by rw[a0C,U8 ks,N8]
theorem a6q:∀l m:List O,b8Z l m=l++m
 | [],m=>rfl
 | x::l,m=>by rw[b8Z,a6q l m];rfl
theorem a2k:∀ {ks:List Nat} {os l:List O},ks.Nodup->(∀k∈ks,k<l.length)->ks.length<=os.length->∀ {i k:Nat},ks[i]?=some k->(J6 ks os l)[k]?=os[i]?
 | [],os,l,_,_,_,i,k,h=>by simp at h
 | k0::ks,[],l,_,_,hl,i,k,h=>by simp at hl
 | k0::ks,x::os,l,hn,hk,hl,i,k,h=>by
  rw[J6,J0];obtain⟨hn1,hn2⟩:=d58.1 hn;have hk':∀k∈ks,k<(l.set k0 x).length:=λk hm=>by rw[d4k];exact hk k (d3M _ hm)
  cases i with
  | zero =>
   simp at h
   subst h;rw[backO_out hk' (by simpa using hl) hn1 (by rw[d4k];exact hk _ (d3L ..)),d4v (hk _ (d3L ..))];rfl
  | succ i =>
   rw[a2k hn2 hk' (by simpa using hl) (i:=i) (by simpa using h)]
   simp
where
 backO_out:∀ {ks:List Nat} {os l:List O},(∀k∈ks,k<l.length)->ks.length<=os.length->∀ {k:Nat},k∉ks->k<l.length->(J6 ks os l)[k]?=l[k]?
  | [],os,l,_,_,k,_,hlt=>by
   rw[J6,a6q,d4b hlt]
   simp
  | k0::ks,[],l,_,hl,k,_,_=>by simp at hl
  | k0::ks,x::os,l,hk,hl,k,hn,hlt=>by
   rw[J6,J0,backO_out (λk hm=>by rw[d4k];exact hk k (d3M _ hm)) (by simpa using hl) (λhm=>hn (d3M _ hm)) (by rw[d4k];exact hlt),d4i λe=>hn (by rw[<-e];exact d3L ..)]
theorem a4S:∀ {ks:List Nat} {os l:List O},ks.length<=os.length->∀d,(J6 ks os l)[l.length+d]?=os[ks.length+d]?
 | [],os,l,_,d=>by
  rw[J6,a6q,d3V (Nat.le_add_right _ _)]
  ·simp
  ·simp
 | k0::ks,[],l,hl,d=>by simp at hl
 | k0::ks,x::os,l,hl,d=>by
  rw[J6,J0];have:=a4S (ks:=ks) (os:=os) (l:=l.set k0 x) (by simpa using hl) d;rw[d4k] at this;rw[this,d3O,Nat.add_right_comm]
  simp
theorem a7u:∀ {ks:List Nat} {os l:List O},ks.length<=os.length->(J6 ks os l).length=l.length+(os.length - ks.length)
 | [],os,l,_=>by
  rw[J6,a6q]
  ·simp
  ·simp
 | k0::ks,[],l,hl=>by simp at hl
 | k0::ks,x::os,l,hl=>by
  rw[J6,J0,a7u (by simpa using hl),d4k]
  simp
theorem a4x {ks:List Nat} {n:Nat}:∀(l:List O) (i:Nat),(a0t ks n l)[i]?=(l[i]?).map (upO ks n)
 | [],i=>by simp[a0t]
 | j::l,0=>by simp[a0t]
 | j::l,i+1=>by simpa [a0t] using a4x l i
theorem a3r {ks:List Nat} {n:Nat}:∀l:List O,(a0t ks n l).length=l.length
 | []=>rfl
 | j::l=>by simp[a0t,a3r l]
theorem a4T {k:Nat}:∀ {l:List Nat},b0Y k l=true↔k∈l
 | []=>by simp[b0Y]
 | j::l=>by
  rw[b0Y];cases e:Y5 j k
  ·show b0Y k l=true↔k∈j::l;rw[a4T,d3R];have:=a3G.1 e;exact Iff.intro (λh=>.inr h) λh=>h.resolve_left λe=>this e.symm
  ·simp[H0.1 e]
theorem a4U:∀ {l:List Nat},a9c l=true->l.Nodup
 | [],_=>List.nodup_nil
 | k::l,h=>by
  rw[a9c] at h
  split at h
  ·cases h
  ·rename_i hm;exact d58.2 ⟨λhk=>(by rw[a4T.2 hk] at hm;cases hm),a4U h⟩
theorem a7v:∀ {l:List Nat},l.Nodup->∀ {i j k:Nat},l[i]?=some k->l[j]?=some k->i=j
 | [],_,i,j,k,h,_=>by simp at h
 | x::l,hn,i,j,k,hi,hj=>by
  obtain⟨h1,h2⟩:=d58.1 hn;cases i with
  | zero =>
   cases j with
   | zero=>rfl
   | succ j =>
    simp at hi hj
    subst hi;exact absurd (d3U hj) h1
  | succ i =>
   cases j with
   | zero =>
    simp at hi hj
    subst hj;exact absurd (d3U hi) h1
   | succ j=>exact congrArg (·+1) (a7v h2 (k:=k) (by simpa using hi) (by simpa using hj))
theorem a9k:∀ {ks:List Nat} {l:List O} {i k:Nat},ks[i]?=some k->(pick ks l)[i]?=some (C1 l k)
 | [],_,_,_,h=>by simp at h
 | k0::ks,l,0,k,h=>by simp at h;subst h;rfl
 | k0::ks,l,i+1,k,h=>by simpa [pick] using a9k (l:=l) (i:=i) (by simpa using h)
theorem a1o:∀ {l:List O},c0Z l=true->∀o∈l,o≠.dead/\∀js,o≠.kl js
 | [],_,o,h=>by simp at h
 | x::l,h,o,hm=>by
  cases x with
  | dead=>cases h
  | box cs =>
   rcases d3R.1 hm with rfl|hm
   ·simp
   ·exact a1o (l:=l) h o hm
  | row z e r =>
   rcases d3R.1 hm with rfl|hm
   ·simp
   ·exact a1o (l:=l) h o hm
  | mp kt es =>
   rcases d3R.1 hm with rfl|hm
   ·simp
   ·exact a1o (l:=l) h o hm
  | it P =>
   rcases d3R.1 hm with rfl|hm
   ·simp
   ·exact a1o (l:=l) h o hm
  | ob T vs =>
   rcases d3R.1 hm with rfl|hm
   ·simp
   ·exact a1o (l:=l) h o hm
  | kl js=>cases h
structure SubOk (ks:List Nat) (vs':List V) (os':List O) (vs:List V) (s:S):Prop where
 nd:a9c ks=true
 len:w8 os'=G7 ks
 args:upT ks (w8 s.o) vs'=vs
 objs:pick ks s.o=a0t ks (w8 s.o) os'
 al:c0Z os'=true
 low:b0Z (G7 ks) vs'=true
 lowo:a3q (G7 ks) os'=true
theorem SubOk.nokl {ks:List Nat} {vs' vs:List V} {os':List O} {s:S} (h:SubOk ks vs' os' vs s) {i:Nat} {o:O} (ho:os'[i]?=some o):∀js,o≠.kl js:=(a1o h.al o (d3U ho)).2
theorem SubOk.obj {ks:List Nat} {vs' vs:List V} {os':List O} (h:SubOk ks vs' os' vs s) {i k:Nat} (hi:ks[i]?=some k):∃o,os'[i]?=some o/\(o≠.dead/\∀js,o≠.kl js)/\s.o[k]?=some (upO ks s.o.length o):=by
 have hl:=h.len;rw[A0,M9] at hl;have hlt:i<os'.length:=by rw[hl];exact(d3J.1 hi).1
 have h1:=a9k (l:=s.o) hi;rw[h.objs,a4x,d3H hlt] at h1;have hd:=a1o h.al os'[i] (d55 hlt);refine⟨os'[i],d3H hlt,hd,?_⟩;have h2:=Option.some.inj h1;rw[<-A0,h2];refine C7 rfl ?_;rw[<-h2];generalize os'[i]=o at hd;cases o <;> simp_all [upO]
def sub (ks:List Nat) (g:Nat->Value) (i:Nat):Value:=match ks[i]? with|some k=>g k|none=>.nilFunc
theorem c1l (h:RelI I0 X w0 I g s a w) {ks:List Nat} {vs' vs:List V} {os':List O} {args:List Value} (hs:SubOk ks vs' os' vs s) (hv:o7 I w g args vs):RelI I (Xof (sub ks g) os') ⟨w,sub ks g,os'.length,[]⟩ I (sub ks g) ⟨vs',os'⟩ { tmps:=args.toArray,defers:=[] } w:=by
 have hl:=hs.len;rw[A0,M9] at hl
 have hg:∀j,j<G7 ks->sub ks g j=g (upN ks (w8 s.o) j):=λj hj=>by
  rw[M9] at hj;unfold sub;rw[a9i hj]
 have hgs:∀ {i k:Nat},ks[i]?=some k->sub ks g i=g k:=λ{i k} h=>by unfold sub;rw[h]
 have hX:∀ {i:Nat} {o:O},os'[i]?=some o->o≠.dead->∀b,gbl (sub ks g i) b->a3F (Xof (sub ks g) os') ⟨w,sub ks g,os'.length,[]⟩ b:=λ{i o} ho hd b hb=>.inr ⟨i,o,ho,hd,hb⟩
 refine⟨λ_ _ h=>h,λb k hb=>⟨(h.lt b k hb).1,λ_=>.inl hb⟩,Fr.refl _ _,C3.refl _ _,d3Q _,λ_ _ _=>rfl,λi o ho=>?_,λi j b hi hj hbi hbj=>?_,λi hi=>?_,?_,rfl,?_⟩
 ·have hlt:i<ks.length:=by rw[<-hl];exact(d3J.1 ho).1
  have hi:ks[i]?=some ks[i]:=d3H hlt;obtain⟨o',ho',⟨hd,_⟩,hso⟩:=hs.obj hi;have ho:os'[i]?=some o:=ho;rw[ho] at ho';injection ho' with ho'
  subst ho';have hob:=h.obj _ _ hso;have hgi:=hgs hi;cases o with
  | dead=>exact True.intro
  | box cs =>
   obtain⟨b,us,t,h1,h2,h3,h4,h5,h6⟩:=hob;refine⟨b,us,t,by rw[hgi];exact h1,h2,b7h hg (by rw[A0];exact h3) (a6p hs.lowo ho),h4,h5,hX ho hd b (by rw[hgi,h1];rfl)⟩
  | row z e rows =>
   obtain⟨us,h1,h2,h3,h4⟩:=hob;refine⟨us,by rw[hgi];exact h1,h2,h3,λb hb=>?_⟩;rw[hgi] at hb;exact⟨(h4 b hb).1,(h4 b hb).2.1,hX ho hd b (by rw[hgi];exact(a3m h1).2 hb)⟩
  | mp kt es =>
   obtain⟨b,l,c,h1,h2,h3,h4,h5⟩:=hob;exact⟨b,l,c,by rw[hgi];exact h1,h2,h3,h4,hX ho hd b (by rw[hgi,h1];rfl)⟩
  | ob T vs =>
   obtain⟨b,h1,h2,h4,h5⟩:=hob;exact⟨b,by rw[hgi];exact h1,h2,h4,hX ho hd b (by rw[hgi,h1];rfl)⟩
  | it P =>
   obtain⟨A,n,cap,F,h1,h2,h3,h4⟩:=hob;exact⟨A,n,cap,F,by rw[hgi];exact h1,h2,h3,λb hb=>⟨(h4 b hb).1,(h4 b hb).2.1,hX ho hd b (by rw[hgi,h1,a3j];exact hb)⟩⟩
  | kl js=>exact absurd rfl (hs.nokl ho js)
 ·obtain⟨oi,hoi,hdi⟩:=hi;obtain⟨oj,hoj,hdj⟩:=hj;have hli:i<ks.length:=by rw[<-hl];exact(d3J.1 hoi).1
  have hlj:j<ks.length:=by rw[<-hl];exact(d3J.1 hoj).1
  have hi:ks[i]?=some ks[i]:=d3H hli;have hj:ks[j]?=some ks[j]:=d3H hlj
  have liv:∀ {i k:Nat},ks[i]?=some k->U7 s k:=λ{i k} h=>by
   obtain⟨o,_,hd,hso⟩:=hs.obj h;exact⟨_,hso,by cases o <;> simp_all [upO]⟩
  rw[hgs hi] at hbi;rw[hgs hj] at hbj;have:=h.dis _ _ b (liv hi) (liv hj) hbi hbj;exact a7v (a4U hs.nd) hi (by rw[this];exact hj)
 ·have hi:os'.length<=i:=hi;unfold sub;rw[d49 (by omega)]
 ·show o7 I w (sub ks g) args vs';exact c1h hg (by rw[hs.args];exact hv) hs.low
 ·refine h.tabs λb ⟨i,o,ho,hd,hb⟩=>?_
  have hlt:i<ks.length:=by rw[<-hl];exact(d3J.1 ho).1
  have hi:ks[i]?=some ks[i]:=d3H hlt;obtain⟨o',ho',⟨hd',_⟩,hso⟩:=hs.obj hi;rw[hgs hi] at hb;exact((h.obj _ _ hso).blk (by cases o' <;> simp_all [upO]) b hb).2
def b9d:List Nat->Nat->Option Nat
 | [],_=>none
 | j::l,k=>if j=k then some 0 else (b9d l k).map (·+1)
theorem b7i:∀ {l:List Nat},l.Nodup->∀ {i k:Nat},l[i]?=some k->b9d l k=some i
 | [],_,i,k,h=>by simp at h
 | x::l,hn,i,k,h=>by
  obtain⟨h1,h2⟩:=d58.1 hn;rw[b9d];cases i with
  | zero=>simp at h;rw[d3I h]
  | succ i =>
   have h3:l[i]?=some k:=by simpa using h
   rw[d3G λe=>h1 (by rw[e];exact d3U h3),b7i h2 h3];rfl
theorem a9l:∀ {l:List Nat} {k:Nat},k∉l->b9d l k=none
 | [],_,_=>rfl
 | x::l,k,h=>by
  rw[b9d,d3G λe=>h (by rw[e];exact d3L ..),a9l λhm=>h (d3M _ hm)];rfl
theorem a6r {ks:List Nat} {n:Nat} {o:O} (h:upO ks n o≠.dead):o≠.dead:=by cases o <;> simp_all [upO]
theorem a6s {ks:List Nat} {n:Nat} {o:O} (h:o≠.dead) (hk:∀js,o≠.kl js):upO ks n o≠.dead:=by cases o <;> simp_all [upO]
theorem called (h:RelI I0 X w0 I g s a w) {ks:List Nat} {vs' vs res:List V} {os' os2:List O} {us:List Value} {w':World} {I':Nat->Nat->Prop} {g1:Nat->Value} (hs:SubOk ks vs' os' vs s)
    (h1:RelI I (Xof (sub ks g) os') ⟨w,sub ks g,os'.length,[]⟩ I' g1 ⟨res,os2⟩ { tmps:=us.toArray,defers:=[] } w'):∃g2,RelI I0 X w0 I' g2 (a3i ks os2 s) a w'/\AtV I' w' g2 (pkg us) (a1i (upT ks (w8 s.o) res))/\((∀i k,ks[i]?=some k->g1 i=g k)->RelI I0 X w0 I' g2 ⟨s.t,J6 ks (a0t ks (w8 s.o) os2) s.o⟩ a w'):=by
  have hm:=hs.len;rw[A0,M9] at hm;have hnd:=a4U hs.nd;obtain⟨n,hn⟩:∃n,n=s.o.length:=⟨_,rfl⟩
  have hklt:∀k∈ks,k<n:=λk hk=>by
    obtain⟨i,hi⟩:=d42.1 hk;obtain⟨o,_,_,ho⟩:=hs.obj hi;rw[hn];exact(d3J.1 ho).1
  have hm2:ks.length<=os2.length:=by rw[<-hm];exact h1.lo
  obtain⟨g2,hg2⟩:∃g2:Nat->Value,g2=λk=>match b9d ks k with|some i=>g1 i|none=>if k<n then g k else g1 (ks.length+(k - n)):=⟨_,rfl⟩
  have f_in:∀ {i k:Nat},ks[i]?=some k->g2 k=g1 i:=λ{i k} hi=>by rw[hg2];simp only;rw[b7i hnd hi]
  have f_out:∀k,k∉ks->k<n->g2 k=g k:=λk hk hlt=>by rw[hg2];simp only;rw[a9l hk];simp only;rw[d3I hlt]
  have f_new:∀d,g2 (n+d)=g1 (ks.length+d):=λd=>by
    rw[hg2];simp only;rw[a9l λhk=>by have:=hklt _ hk;omega];simp only;rw[d3G (by omega)]
    congr 1
    omega
  have f1:∀j,g2 (upN ks n j)=g1 j:=λj=>by
    rcases d4F j ks.length with hj|hj
    · exact f_in (a9i hj)
    · rw[b5I hj,f_new]
      congr 1
      omega
  have gsub:∀ {i k:Nat},ks[i]?=some k->sub ks g i=g k:=λ{i k} h=>by unfold sub;rw[h]
  have f_ref:∀j,a0H (g j)=true->g2 j=g j:=λj hr=>by
    by_cases hj:j∈ks
    · obtain⟨i,hi⟩:=d42.1 hj
      have hlt:=(d3J.1 hi).1;rw[f_in hi,h1.st i (by show i<os'.length;rw[hm];exact hlt) (by show a0H (sub ks g i)=true;rw[gsub hi];exact hr)];exact gsub hi
    · refine f_out j hj ?_
      rcases d4F j n with hlt|hge
      · exact hlt
      · rw[h.out j (by omega)] at hr;cases hr
  have xof:∀b,Xof (sub ks g) os' b->∃k,k∈ks/\U7 s k/\gbl (g k) b/\b<w.heap.size/\a3F X w0 b:=λb ⟨i,o,ho,hd,hb⟩=>by
    have hlt:i<ks.length:=by rw[<-hm];exact(d3J.1 ho).1
    have hi:ks[i]?=some ks[i]:=d3H hlt;obtain⟨o',ho',hd',hso⟩:=hs.obj hi;rw[gsub hi] at hb;have hdd:upO ks s.o.length o'≠.dead:=a6s hd'.1 hd'.2;have:=(h.obj _ _ hso).blk hdd b hb;exact⟨ks[i],d55 hlt,⟨_,hso,hdd⟩,hb,this.1,this.2⟩
  have mine:∀b,a3F (Xof (sub ks g) os') ⟨w,sub ks g,os'.length,[]⟩ b->a3F X w0 b:=λb hb=>by
    rcases hb with hb|hb
    · exact .inl (d5m h.fr.size hb)
    · obtain⟨k,_,_,_,_,hM⟩:=xof b hb
      exact hM
  have hkp:C3 I w w':=h1.kp;have hII:∀b k,I b k->I' b k:=h1.im
  have hlen:(a3i ks os2 s).o.length=n+(os2.length - ks.length):=by
    show (J6 ks (a0t ks (w8 s.o) os2) (a0C ks s.o)).length=_;rw[a7u (by rw[a3r];exact hm2),U8,a3r,hn]
  have each:∀k o,(a3i ks os2 s).o[k]?=some o->(∃i o1,os2[i]?=some o1/\o=upO ks n o1/\g2 k=g1 i/\k=upN ks n i)\/(k∉ks/\k<n/\g2 k=g k/\∃o',s.o[k]?=some o'/\(o≠.dead->o'≠.dead)/\((∃cs,o'=.box cs/\o=.box (b2E ks cs))\/(∃js,o'=.kl js/\o=.kl (a9j ks js))\/(o=o'/\(∀cs,o≠.box cs)/\∀js,o≠.kl js))):=λk o hk=>by
    have hk:(J6 ks (a0t ks (w8 s.o) os2) (a0C ks s.o))[k]?=some o:=hk;rw[A0,<-hn] at hk;have hkl:∀k∈ks,k<(a0C ks s.o).length:=λk hk=>by rw[U8,<-hn];exact hklt k hk
    have hol:ks.length<=(a0t ks n os2).length:=by rw[a3r];exact hm2
    by_cases hin:k∈ks
    · obtain⟨i,hi⟩:=d42.1 hin
      rw[a2k hnd hkl hol hi,a4x] at hk;obtain⟨o1,ho1,rfl⟩:=d4S.1 hk;have hlt:=(d3J.1 hi).1;have h3:=a9i (n:=n) hlt;rw[hi] at h3;exact .inl ⟨i,o1,ho1,rfl,f_in hi,Option.some.inj h3⟩
    · rcases d4F k n with hlt|hge
      · rw[a2k.backO_out hkl hol hin (by rw[U8,<-hn];exact hlt)] at hk
        exact .inr ⟨hin,hlt,f_out k hin hlt,a5I ks s.o k o hk⟩
      · obtain⟨d,rfl⟩:∃d,k=n+d:=⟨k - n,by omega⟩
        have hnl:(a0C ks s.o).length+d=n+d:=by rw[U8,<-hn]
        rw[<-hnl,a4S hol d,a4x] at hk;obtain⟨o1,ho1,rfl⟩:=d4S.1 hk;refine .inl ⟨ks.length+d,o1,ho1,rfl,f_new d,?_⟩;rw[b5I (by omega)];omega
  have hgm:∀k,(if k<n then g2 k else g k)≠.nilFunc->g2 k=(if k<n then g2 k else g k):=λk hk=>by
    by_cases hlt:k<n
    · rw[d3I hlt]
    · rw[d3G hlt] at hk
      exact absurd (h.out k (by omega)) hk
  have hk1:∀j,j∉ks->(if j<n then g2 j else g j)=g j:=λj hj=>by
    by_cases hlt:j<n
    · rw[d3I hlt];exact f_out j hj hlt
    · rw[d3G hlt]
  have hk2:∀j,a0H (g j)=true->(if j<n then g2 j else g j)=g j:=λj hb=>by
    by_cases hlt:j<n
    · rw[d3I hlt];exact f_ref j hb
    · rw[d3G hlt]
  have f1':∀j,g1 j≠.nilFunc->g2 (upN ks n j)=g1 j:=λj _=>f1 j
  have hR:RelI I0 X w0 I' g2 (a3i ks os2 s) a w':=by
   refine⟨λb k hb=>hII _ _ (h.im b k hb),λb k hb=>⟨(h1.lt b k hb).1,λhlt=>?_⟩,⟨h1.fr.os.trans h.fr.os,h1.fr.tape.trans h.fr.tape,h1.fr.output.trans h.fr.output,d5m h.fr.size h1.fr.size,λb hb hX=>?_⟩,h.kp.trans λb k hb i hi=>hkp b k (h.im b k hb) i hi,?_,λk hk hr=>?_,λk o hk=>?_,λj k b hj hk hbj hbk=>?_,λk hk=>?_,?_,h.dfr⟩
   · rcases (h1.lt b k hb).2 (d4M hlt h.fr.size) with h3|h3
     · exact(h.lt b k h3).2 hlt
     · obtain⟨_,_,_,_,_,hM⟩:=xof b h3
       rcases hM with hM|hM
       · omega
       · exact .inr hM
   · refine(h1.fr.block b (d4M hb h.fr.size) λhx=>?_).trans (h.fr.block b hb hX)
     obtain⟨_,_,_,_,_,hM⟩:=xof b hx
     rcases hM with hM|hM
     · omega
     · exact hX hM
   · rw[hlen]
     have:=h.lo;omega
   · have e:=h.st k hk hr
     rw[<-e] at hr ⊢;exact f_ref k hr
   · rcases each k o hk with⟨i,o1,ho1,rfl,e,_⟩|⟨hin,hlt,e,o',ho',hdd,hsh⟩
     · have hob:=h1.obj i o1 ho1
       cases o1 with
       | dead=>exact True.intro
       | box cs =>
         obtain⟨b,us,t,a1,a2,a3,a4,a5,a6⟩:=hob;exact⟨b,us,t,e.trans a1,a2,c1j f1' a3,a4,a5,mine b a6⟩
       | row z e2 rows =>
         obtain⟨us,a1,a2,a3,a4⟩:=hob;exact⟨us,by rw[e];exact a1,a2,a3,λb hb=>by rw[e] at hb;exact⟨(a4 b hb).1,(a4 b hb).2.1,mine b (a4 b hb).2.2⟩⟩
       | mp kt es =>
         obtain⟨b,l,c,a1,a2,a3,a4,a5⟩:=hob;exact⟨b,l,c,e.trans a1,a2,a3,a4,mine b a5⟩
       | ob T vs =>
         obtain⟨b,a1,a2,a4,a5⟩:=hob;exact⟨b,e.trans a1,a2,a4,mine b a5⟩
       | it P =>
         obtain⟨A,n',cap,F,a1,a2,a3,a4⟩:=hob;exact⟨A,n',cap,F,e.trans a1,a2,a3,λb hb=>⟨(a4 b hb).1,(a4 b hb).2.1,mine b (a4 b hb).2.2⟩⟩
       | kl js=>exact True.intro
     · by_cases hd:o=.dead
       · subst hd;exact True.intro
       have hd':=hdd hd;have hob:=h.obj k o' ho'
       have nox:∀b,gbl (g k) b->¬Xof (sub ks g) os' b:=λb hb hx=>by
         obtain⟨k',hk',hl',hb',_⟩:=xof b hx;exact hin (by rw[h.dis k k' b ⟨_,ho',hd'⟩ hl' hb hb'];exact hk')
       have hkeep:a1k X w0 I' w' g k o':=by
         refine hob.keep hII hkp (λb hb=>h1.fr.block b (hob.blk hd' b hb).1 (nox b hb)) λb hb k' hk'=>?_
         rcases (h1.lt b k' hk').2 (hob.blk hd' b hb).1 with h3|h3
         · exact h3
         · exact absurd h3 (nox b hb)
       rcases hsh with⟨cs,rfl,rfl⟩|⟨cs,rfl,rfl⟩|⟨rfl,hnb,hnf⟩
       · obtain⟨b,us,t,a1,a2,a3,a4⟩:=hkeep
         exact⟨b,us,t,e.trans a1,a2,(b1p ks g hk1 hk2 a3).more hgm,a4⟩
       · obtain⟨us,a1,a2,a3⟩:=hkeep
         refine⟨us,e.trans a1,a2,λj u hu=>?_⟩
         by_cases hjk:j∈ks
         · exact .inr (.inr (a5H (.inl hjk)))
         · rcases a3 j u hu with a4|a4|a4
           · exact .inl a4
           · have:=(d3Z.1 hu).1
             exact .inr (.inl ((f_out j hjk (by omega)).trans a4))
           · exact .inr (.inr (a5H (.inr a4)))
       · cases o with
         | dead=>exact True.intro
         | box cs=>exact absurd rfl (hnb cs)
         | kl js=>exact absurd rfl (hnf js)
         | mp kt es =>
           obtain⟨b,l,c,a1,a2⟩:=hkeep;exact⟨b,l,c,e.trans a1,a2⟩
         | ob T vs =>
           obtain⟨b,a1,a2⟩:=hkeep;exact⟨b,e.trans a1,a2⟩
         | it P =>
           obtain⟨A,n',cap,F,a1,a2⟩:=hkeep;exact⟨A,n',cap,F,e.trans a1,a2⟩
         | row z e2 rows =>
           obtain⟨us,a1,a2,a3,a4⟩:=hkeep;exact⟨us,by rw[e];exact a1,a2,a3,by rw[e];exact a4⟩
   · obtain⟨oj,hoj,hdj⟩:=hj
     obtain⟨ok,hok,hdk⟩:=hk
     have cross:∀ {i k:Nat} {o1:O},os2[i]?=some o1->o1≠.dead->gbl (g1 i) b->k∉ks->U7 s k->¬gbl (g k) b:=λ{i k o1} ho1 hd1 hb1 hin hl hb=>by
       rcases ((h1.obj i o1 ho1).blk hd1 b hb1).2 with h3|h3
       · have h3:w.heap.size<=b:=h3
         have:=h.blk_lt hl hb;omega
       · obtain⟨k',hk',hl',hb',_⟩:=xof b h3
         exact hin (by rw[h.dis k k' b hl hl' hb hb'];exact hk')
     rcases each j oj hoj with⟨i,o1,ho1,rfl,e,eu⟩|⟨hin,hlt,e,o',ho',hdd,_⟩ <;> rcases each k ok hok with⟨i',o1',ho1',rfl,e',eu'⟩|⟨hin',hlt',e',o'',ho'',hdd',_⟩
     · rw[e] at hbj
       rw[e'] at hbk;rw[eu,eu',h1.dis i i' b ⟨_,ho1,a6r hdj⟩ ⟨_,ho1',a6r hdk⟩ hbj hbk]
     · rw[e] at hbj
       rw[e'] at hbk;exact absurd hbk (cross ho1 (a6r hdj) hbj hin' ⟨_,ho'',hdd' hdk⟩)
     · rw[e] at hbj
       rw[e'] at hbk;exact absurd hbj (cross ho1' (a6r hdk) hbk hin ⟨_,ho',hdd hdj⟩)
     · rw[e] at hbj
       rw[e'] at hbk;exact h.dis j k b ⟨_,ho',hdd hdj⟩ ⟨_,ho'',hdd' hdk⟩ hbj hbk
   · rw[hlen] at hk
     obtain⟨d,rfl⟩:∃d,k=n+d:=⟨k - n,by omega⟩;rw[f_new];exact h1.out _ (by show os2.length<=_;omega)
   · exact((a7t ks g hk1 hk2 h.tmp).more hgm).mono hII hkp

  have hpk:AtV I' w' g2 (pkg us) (a1i (upT ks (w8 s.o) res)):=by
    have h3:o7 I' w' g1 us res:=h1.tmp;rw[A0,<-hn];exact c1k (c7w f1' h3)
  refine⟨g2,hR,hpk,λhstay=>?_⟩
  have hgg:∀k,g k≠.nilFunc->g2 k=g k:=λk hk=>by
    by_cases hin:k∈ks
    · obtain⟨i,hi⟩:=d42.1 hin
      rw[f_in hi];exact hstay i k hi
    · rcases d4F k n with hlt|hge
      · exact f_out k hin hlt
      · exact absurd (h.out k (by omega)) hk
  have hol:ks.length<=(a0t ks n os2).length:=by rw[a3r];exact hm2
  have hkl1:∀k∈ks,k<(a0C ks s.o).length:=λk hk=>by rw[U8,<-hn];exact hklt k hk
  have hkl2:∀k∈ks,k<s.o.length:=λk hk=>by rw[<-hn];exact hklt k hk
  have hl1:(J6 ks (a0t ks n os2) s.o).length=(a3i ks os2 s).o.length:=by
    rw[hlen,a7u hol,a3r,<-hn]
  have hbk:(a3i ks os2 s).o=J6 ks (a0t ks n os2) (a0C ks s.o):=by
    show J6 ks (a0t ks (w8 s.o) os2) (a0C ks s.o)=_;rw[A0,<-hn]
  have two:∀k o,(J6 ks (a0t ks n os2) s.o)[k]?=some o->(a3i ks os2 s).o[k]?=some o\/(k∉ks/\k<n/\s.o[k]?=some o):=λk o hk=>by
    rw[hbk]
    by_cases hin:k∈ks
    · obtain⟨i,hi⟩:=d42.1 hin
      rw[a2k hnd hkl2 hol hi] at hk;exact .inl (by rw[a2k hnd hkl1 hol hi];exact hk)
    · rcases d4F k n with hlt|hge
      · rw[a2k.backO_out hkl2 hol hin (by rw[<-hn];exact hlt)] at hk
        exact .inr ⟨hin,hlt,hk⟩
      · obtain⟨d,rfl⟩:∃d,k=n+d:=⟨k - n,by omega⟩
        have e1:s.o.length+d=n+d:=by rw[<-hn]
        have e2:(a0C ks s.o).length+d=n+d:=by rw[U8,<-hn]
        rw[<-e1,a4S hol d] at hk;exact .inl (by rw[<-e2,a4S hol d];exact hk)
  have lv:∀k,U7 ⟨s.t,J6 ks (a0t ks n os2) s.o⟩ k->U7 (a3i ks os2 s) k:=λk ⟨o,ho,hd⟩=>by
    rcases two k o ho with h3|⟨hin,hlt,hso⟩
    · exact⟨o,h3,hd⟩
    · have hex:∃o2,(a0C ks s.o)[k]?=some o2:=⟨_,d3H (by rw[U8,<-hn];exact hlt)⟩
      obtain⟨o2,ho2⟩:=hex;obtain⟨o3,h4,h5,h6⟩:=a5I ks s.o k o2 ho2;rw[hso] at h4;injection h4 with h4;subst h4;refine⟨o2,by rw[hbk,a2k.backO_out hkl1 hol hin (by rw[U8,<-hn];exact hlt)];exact ho2,?_⟩
      rcases h6 with⟨cs,rfl,rfl⟩|⟨cs,rfl,rfl⟩|⟨rfl,_,_⟩
      · simp
      · simp
      · exact hd
  rw[A0,<-hn];refine⟨hR.im,hR.lt,hR.fr,hR.kp,by show w0.n<=(J6 ks (a0t ks n os2) s.o).length;rw[hl1];exact hR.lo,hR.st,λk o hk=>?_,λj k b hj hk=>hR.dis j k b (lv j hj) (lv k hk),λk hk=>hR.out k (by rw[<-hl1];exact hk),(h.tmp.more hgg).mono hII hkp,h.dfr⟩
  rcases two k o hk with h3|⟨hin,hlt,hso⟩
  · exact hR.obj k o h3
  · by_cases hd:o=.dead
    · subst hd;exact True.intro
    have hob:=h.obj k o hso
    have nox:∀b,gbl (g k) b->¬Xof (sub ks g) os' b:=λb hb hx=>by
      obtain⟨k',hk',hl',hb',_⟩:=xof b hx;exact hin (by rw[h.dis k k' b ⟨_,hso,hd⟩ hl' hb hb'];exact hk')
    have hkeep:a1k X w0 I' w' g k o:=by
      refine hob.keep hII hkp (λb hb=>h1.fr.block b (hob.blk hd b hb).1 (nox b hb)) λb hb k' hk'=>?_
      rcases (h1.lt b k' hk').2 (hob.blk hd b hb).1 with h3|h3
      · exact h3
      · exact absurd h3 (nox b hb)
    exact hkeep.more hgg
end
def c4R:List O->Bool
 | []=>true
 | .kl _::_=>false
 | _::l=>c4R l
theorem a6t:∀ {l:List O},c4R l=true->∀ {i:Nat} {o:O},l[i]?=some o->∀js,o≠.kl js
 | [],_,i,o,h=>by simp at h
 | x::l,hl,i,o,h=>by
  have hl':c4R l=true/\∀js,x≠.kl js:=by cases x <;> first|cases hl|exact⟨hl,by simp⟩
  cases i with
  | zero=>simp at h;subst h;exact hl'.2
  | succ i=>exact a6t hl'.1 (by simpa using h)
structure KeepOk (n:Nat) (ks:List Nat) (res':List V) (os':List O) (res:List V) (s:S):Prop where
 nd:a9c ks=true
 len:w8 os'=G7 ks
 head:b7e 0 n ks=true
 args:upT ks (w8 s.o) res'=res
 objs:pick ks s.o=a0t ks (w8 s.o) os'
 low:b0Z (G7 ks) res'=true
 lowo:a3q (G7 ks) os'=true
 nk:c4R os'=true
theorem b3Q:∀ {n j:Nat} {ks:List Nat},b7e j n ks=true->n<=ks.length/\∀i,i<n->ks[i]?=some (j+i)
 | 0,j,ks,_=>⟨d4o _,λi hi=>absurd hi (d6n _)⟩
 | n+1,j,[],h=>by cases h
 | n+1,j,k::ks,h=>by
  rw[b7e] at h
  split at h
  ·rename_i e;have e:=H0.1 e;subst e;obtain⟨h1,h2⟩:=b3Q h;refine⟨by simp;exact h1,λi hi=>?_⟩;cases i with
   | zero=>simp
   | succ i =>
    have:=h2 i (by omega);simp only[d4T];rw[this]
    congr 1
    omega
  ·cases h
section
variable {I0:Nat->Nat->Prop} {X:Nat->Prop} {w0:W0} {I:Nat->Nat->Prop} {g:Nat->Value} {s:S} {a:Act} {w:World}
theorem b7j (h:RelI I0 X w0 I g s a w) (hd0:w0.d=[]) {ks:List Nat} {res' res:List V} {os':List O} {us:List Value} (hs:KeepOk w0.n ks res' os' res s) (hv:o7 I w g us res):RelI I0 X w0 I (sub ks g) ⟨res',os'⟩ { tmps:=us.toArray,defers:=[] } w:=by
 have hl:=hs.len;rw[A0,M9] at hl;obtain⟨hn1,hn2⟩:=b3Q hs.head
 have hg:∀j,j<G7 ks->sub ks g j=g (upN ks (w8 s.o) j):=λj hj=>by
  rw[M9] at hj;unfold sub;rw[a9i hj]
 have hgs:∀ {i k:Nat},ks[i]?=some k->sub ks g i=g k:=λ{i k} h=>by unfold sub;rw[h]
 have hobj:∀ {i:Nat} {o:O},os'[i]?=some o->o≠.dead->∃k,ks[i]?=some k/\s.o[k]?=some (upO ks s.o.length o):=λ{i o} ho hd=>by
  have hlt:i<ks.length:=by rw[<-hl];exact(d3J.1 ho).1
  have hi:ks[i]?=some ks[i]:=d3H hlt;refine⟨_,hi,?_⟩;have h1:=a9k (l:=s.o) hi;rw[hs.objs,a4x,ho] at h1;have h2:=Option.some.inj h1;rw[<-A0,h2];refine C7 rfl ?_;rw[<-h2];exact a6s hd (a6t hs.nk ho)
 refine⟨h.im,h.lt,h.fr,h.kp,by show w0.n<=os'.length;omega,λk hk hr=>?_,λi o ho=>?_,λi j b hi hj hbi hbj=>?_,λi hi=>?_,?_,⟨hd0.symm,h.dfr.2⟩⟩
 ·have:=hn2 k hk;rw[d4L] at this;rw[hgs this];exact h.st k hk hr
 ·have ho:os'[i]?=some o:=ho
  by_cases hd:o=.dead
  ·subst hd;exact True.intro
  obtain⟨k,hi,hso⟩:=hobj ho hd;have hob:=h.obj _ _ hso;have hgi:=hgs hi;cases o with
  | dead=>exact True.intro
  | box cs =>
   obtain⟨b,us,t,h1,h2,h3,h4,h5,h6⟩:=hob;exact⟨b,us,t,by rw[hgi];exact h1,h2,b7h hg (by rw[A0];exact h3) (a6p hs.lowo ho),h4,h5,h6⟩
  | row z e rows =>
   obtain⟨us,h1,h2,h3,h4⟩:=hob;exact⟨us,by rw[hgi];exact h1,h2,h3,λb hb=>by rw[hgi] at hb;exact h4 b hb⟩
  | mp kt es =>
   obtain⟨b,l,c,h1,h2⟩:=hob;exact⟨b,l,c,by rw[hgi];exact h1,h2⟩
  | ob T vs =>
   obtain⟨b,h1,h2⟩:=hob;exact⟨b,by rw[hgi];exact h1,h2⟩
  | it P =>
   obtain⟨A,n,cap,F,h1,h2⟩:=hob;exact⟨A,n,cap,F,by rw[hgi];exact h1,h2⟩
  | kl js=>exact absurd rfl (a6t hs.nk ho js)
 ·obtain⟨oi,hoi,hdi⟩:=hi;obtain⟨oj,hoj,hdj⟩:=hj;obtain⟨ki,hi,hsi⟩:=hobj hoi hdi;obtain⟨kj,hj,hsj⟩:=hobj hoj hdj;rw[hgs hi] at hbi;rw[hgs hj] at hbj;have:=h.dis _ _ b ⟨_,hsi,a6s hdi (a6t hs.nk hoi)⟩ ⟨_,hsj,a6s hdj (a6t hs.nk hoj)⟩ hbi hbj;exact a7v (a4U hs.nd) hi (by rw[this];exact hj)
 ·have hi:os'.length<=i:=hi;unfold sub;rw[d49 (by omega)]
 ·show o7 I w (sub ks g) us res';exact c1h hg (by rw[hs.args];exact hv) hs.low
end
section
variable {I0:Nat->Nat->Prop} {X:Nat->Prop} {w0:W0} {I:Nat->Nat->Prop} {g:Nat->Value} {s:S} {a:Act} {w:World}
theorem RelI.freeze (h:RelI I0 X w0 I g s a w) (k:Nat):∃I',RelI I0 X w0 I' g ⟨s.t,c1a s.o k⟩ a w/\∀b n,I b n->I' b n:=by
 unfold c1a
 split
 ·rename_i z e rows hok;have hk:=C7 hok (by simp);rw[J0];obtain⟨us,h1,h2,h3,h4⟩:=h.obj k _ hk;have hlk:U7 s k:=⟨_,hk,by simp⟩;have hlt:k<s.o.length:=(d3J.1 hk).1;have hgk:∀ {b},gbl (g k) b↔(g k).ownBlock=some b:=a3m h1;have hkp:C3 I w w:=C3.refl I w;refine⟨λb n=>I b n\/((g k).ownBlock=some b/\n<=rows.length * (ty e).sz),⟨λb n hb=>.inl (h.im b n hb),λb n hb=>?_,h.fr,h.kp,by simpa using h.lo,h.st,λj o hj=>?_,λi j b hi hj=>h.dis i j b (a19 hk (by simp) hi) (a19 hk (by simp) hj),λj hj=>h.out j (by simpa using hj),h.tmp.mono (λ_ _ h=>.inl h) hkp,h.dfr⟩,λ_ _ h=>.inl h⟩
  ·rcases hb with hb|⟨hb,_⟩
   ·exact h.lt b n hb
   ·refine⟨(h1.lt b hb).2,λhlt=>.inr ?_⟩
    rcases (h4 b hb).2.2 with hM|hM
    ·omega
    ·exact hM
  ·by_cases hjk:k=j
   ·subst hjk;simp only[d4v hlt] at hj;injection hj with hj;subst hj;refine⟨us,h1,h2,h3.mono (λ_ _ h=>.inl h) hkp,λb hb=>⟨λ_=>.inr ⟨hb,d3Q _⟩,λn hn=>⟨rfl,?_⟩,(h4 b hb).2.2⟩⟩
    rcases hn with hn|⟨_,hn⟩
    ·exact((h4 b hb).2.1 n hn).2
    ·exact hn
   ·simp only[d4i hjk] at hj
    by_cases hd:o=.dead
    ·subst hd;exact True.intro
    refine(h.obj j o hj).keep (λ_ _ h=>.inl h) hkp (λ_ _=>rfl) λb hb n hn=>?_
    rcases hn with hn|⟨hn,_⟩
    ·exact hn
    ·exact absurd (h.dis k j b hlk ⟨o,hj,hd⟩ (hgk.2 hn) hb) hjk
 ·exact⟨I,h,λ_ _ h=>h⟩
theorem RelI.frz:∀(ks:List Nat) {I:Nat->Nat->Prop} {s:S},RelI I0 X w0 I g s a w->∃I',RelI I0 X w0 I' g ⟨s.t,frz ks s.o⟩ a w/\∀b n,I b n->I' b n
 | [],I,_,h=>⟨I,h,λ_ _ h=>h⟩
 | k::ks,_,_,h=>by
  obtain⟨I',h',h1⟩:=h.freeze k;obtain⟨I2,h2,h3⟩:=RelI.frz ks h';exact⟨I2,h2,λb n hb=>h3 b n (h1 b n hb)⟩
theorem Rel.frz (h:Rel I0 X w0 s a w) (ks:List Nat):Rel I0 X w0 ⟨s.t,Vm.frz ks s.o⟩ a w:=by
 obtain⟨I,g,h⟩:=h;obtain⟨I',h',_⟩:=RelI.frz ks h;exact⟨I',g,h'⟩
end
def L6 (s s':S):Prop:=∀(I0:Nat->Nat->Prop) (X:Nat->Prop) (w0:W0) (a:Act) (w:World),Rel I0 X w0 s a w->Rel I0 X w0 s' a w
def c8g (s:S) (F:S->Prop):Prop:=∀(I0:Nat->Nat->Prop) (X:Nat->Prop) (w0:W0) (a:Act) (w:World),Rel I0 X w0 s a w->∃s',F s'/\Rel I0 X w0 s' a w
theorem L6.trans {s s' s2:S} (h:L6 s s') (h2:L6 s' s2):L6 s s2:=λ_ _ _ _ _ hr=>h2 _ _ _ _ _ (h _ _ _ _ _ hr)
theorem L6.frz (s:S) (ks:List Nat):L6 s ⟨s.t,Vm.frz ks s.o⟩:=λ_ _ _ _ _ hr=>hr.frz ks
def Y9 (f:Nat) (vs:List V) (o:List O) (K:V->List O->List Nat->Prop):Prop:=a3p Tryz.prog f=true/\∀(I0:Nat->Nat->Prop) (X:Nat->Prop) (w0:W0) (I:Nat->Nat->Prop) (g:Nat->Value) (t:List V) (a:Act) (w:World) (us:List Value),
 RelI I0 X w0 I g ⟨t,o⟩ a w->o7 I w g us vs->Calls Tryz.prog f us.toArray w λe w'=>∃v x o' ks I' g',e=.returned v/\RelI I0 X w0 I' g' ⟨E5 ks t,o'⟩ a w'/\AtV I' w' g' v x/\K x o' ks
def a9m (f:Nat) (vs:List V) (o:List O) (x:V):Prop:=a3p Tryz.prog f=true/\∀(I0:Nat->Nat->Prop) (X:Nat->Prop) (w0:W0) (I:Nat->Nat->Prop) (g:Nat->Value) (t:List V) (a:Act) (w:World) (us:List Value),
 RelI I0 X w0 I g ⟨t,o⟩ a w->o7 I w g us vs->Calls Tryz.prog f us.toArray w λe w'=>∃v I' g',e=.returned v/\RelI I0 X w0 I' g' ⟨t,o⟩ a w'/\AtV I' w' g' v x
theorem Y9.mono {f:Nat} {vs:List V} {o:List O} {K K':V->List O->List Nat->Prop} (h:Y9 f vs o K) (hK:∀x o' ks,K x o' ks->K' x o' ks):Y9 f vs o K' :=
 ⟨h.1,λI0 X w0 I g t a w us h1 h2=>(h.2 I0 X w0 I g t a w us h1 h2).mono λe w' ⟨v,x,o',ks,I',g',e1,e2,e3,e4⟩=>⟨v,x,o',ks,I',g',e1,e2,e3,hK _ _ _ e4⟩⟩
def a2W (f:Nat) (vs:List V) (o:List O) (K:V->List O->Prop):Prop:=a3p Tryz.prog f=true/\∀(I0:Nat->Nat->Prop) (X:Nat->Prop) (w0:W0) (I:Nat->Nat->Prop) (g:Nat->Value) (t:List V) (a:Act) (w:World) (us:List Value),
 RelI I0 X w0 I g ⟨t,o⟩ a w->o7 I w g us vs->Calls Tryz.prog f us.toArray w λe w'=>∃v x o' I' g',e=.returned v/\RelI I0 X w0 I' g' ⟨t,o'⟩ a w'/\AtV I' w' g' v x/\K x o'
theorem a2W.mono {f:Nat} {vs:List V} {o:List O} {K K':V->List O->Prop} (h:a2W f vs o K) (hK:∀x o',K x o'->K' x o'):a2W f vs o K' :=
 ⟨h.1,λI0 X w0 I g t a w us h1 h2=>(h.2 I0 X w0 I g t a w us h1 h2).mono λe w' ⟨v,x,o',I',g',e1,e2,e3,e4⟩=>⟨v,x,o',I',g',e1,e2,e3,hK _ _ e4⟩⟩
theorem Y9.x {f:Nat} {vs:List V} {o:List O} {K:V->List O->Prop} (h:Y9 f vs o λx o' ks=>ks=[]/\K x o'):a2W f vs o K :=
 ⟨h.1,λI0 X w0 I g t a w us h1 h2=>(h.2 I0 X w0 I g t a w us h1 h2).mono λe w' ⟨v,x,o',ks,I',g',e1,e2,e3,e4,e5⟩=>by subst e4;exact⟨v,x,o',I',g',e1,e2,e3,e5⟩⟩
theorem a9m.x {f:Nat} {vs:List V} {o:List O} {x:V} (h:a9m f vs o x):a2W f vs o λy o'=>y=x/\o'=o :=
 ⟨h.1,λI0 X w0 I g t a w us h1 h2=>(h.2 I0 X w0 I g t a w us h1 h2).mono λe w' ⟨v,I',g',e1,e2,e3⟩=>⟨v,x,o,I',g',e1,e2,e3,rfl,rfl⟩⟩
def c7x:V->Option Nat
 | .ptr k _=>some k
 | .el k _ _ _=>some k
 | _=>none
def a3H (l:List Nat) (t:List V) (o o':List O):Prop:=∀i∈l,∀k,c7x (y8 t i)=some k->C1 o' k=C1 o k
def b3R (R:S->S->Prop) (body:S->(X->S->Prop)->Prop) (s:S) (K:X->S->Prop):Prop:=∃(γ:Type) (st:γ->S) (inv:γ->Prop) (μ:γ->Nat),(∀x,inv x->w8 s.o<=w8 (st x).o)/\(∃x,R s (st x)/\inv x)/\∀x,inv x->body (st x) (λe s=>b22 (λs2=>∃y,inv y/\μ y<μ x/\R s2 (st y)) K e s)
def a3I (n:Nat) (s s':S):Prop:=∀(I0:Nat->Nat->Prop) (X:Nat->Prop) (w0:W0) (a:Act) (w:World),w0.n<=n->Rel I0 X w0 s a w->Rel I0 X w0 s' a w
def FW (ro:Option Nat):Fence:={ Fence.wide with round:=ro }
def j5:Ar where
 wrap:=IntKind.wrap
 add x y:=x+y
 sub x y:=x - y
 mul x y:=x * y
 quo x y:=x.tdiv y
 rem x y:=x.tmod y
 bits:=Z1
 lt x y:=decide (x<y)
 le x y:=decide (x<=y)
 eq x y:=x == y
 nz y k:=y≠0/\k
 seq x y:=x == y
 slt x y:=Op.bytesLess x y
 bytes b:=b.toList
 cat x y:=x++y
 fits x y k:=x.size+y.size<=4611686018427387904/\k
 slen b:=(b.size:Int)
 sget b n:=if 0<=n then (b[n.toNat]?).map λc=>(c.toNat:Int) else none
 ssub b l h:=if 0<=l/\l<=h/\h<=b.size then some (b.extract l.toNat h.toNat) else none
 txt:=a4R
 byt:=a8Y
 nat n m:=if 0<=n/\n<m then some n.toNat else none
 len rows:=(rows.length:Int)
 get rows n:=if 0<=n then rows[n.toNat]? else none
 sub2 rows l h:=if 0<=l/\l<=h/\h<=rows.length then some ((rows.drop l.toNat).take (h.toNat - l.toNat)) else none
 app xs ys:=xs++ys
 set xs n y:=xs.set n.toNat y
 room xs ys k:=xs.length+ys.length<=137438953472/\k
 mlook:=a5q
 mput:=a2T
 deq x y:=b5E y x
 rep n z k:=(0<=n/\n<=16777216/\n.toNat * z.length<=16777216)/\k (List.replicate n.toNat z)
 call f rs K:=∃q,o8 f rs q/\K q
 calld f vs o K:=∃x,a9m f vs o x/\K x
 callo f vs s K:=Y9 f vs s.o λv o' ks=>K v ⟨E5 ks s.t,o'⟩
 callx f vs l s K:=a2W f vs s.o λv o'=>a3H l s.t s.o o'/\K v ⟨s.t,o'⟩
 lit _ K:=∃c,K c
 keep n Q res s:=∃ks res' os',KeepOk n ks res' os' res s/\Q res' os'
 new _ K:=∃z,K z
 next N s:=∃F:S->Prop,c8g s F/\∀s',F s'->N s'
 reg ops s K:=∀(I0:Nat->Nat->Prop) (X:Nat->Prop) (w0:W0) (a:Act) (w:World) (ro:Option Nat) (n:Nat) (Q:Exit->Act->World->Prop),(∀o∈ops.toList,a1A Tryz.prog o.op=true)->Rel I0 X w0 s a w->(∀s' a' w',Rel I0 X w0 s' a' w'->K s'->Q .normal a' w')->wpAnyIn (FW ro) n Tryz.prog .any ops Q ops.size (Array.replicate ops.size false) a w
 ext op dst s K:=∀(I0:Nat->Nat->Prop) (X:Nat->Prop) (w0:W0) (a:Act) (w:World) (o:Oper) (Q:Exit->Act->World->Prop),o.op=op->o.dst=dst->a1A Tryz.prog op=true->Rel I0 X w0 s a w->o.wp Tryz.prog a w (λa' w'=>∃s',Rel I0 X w0 s' a' w'/\K s') Q
 loop _ body s K:=b3R weak body s K\/b3R Eq body s K\/b3R (a3I (w8 s.o)) body s K
theorem a9n {f:Nat} {vs:List V} {o:List O} {rs q:List R} (h:o8 f rs q) (hr:b0W o vs=some rs):Y9 f vs o λx o' ks=>x=b8W q/\o'=o/\ks=[] :=
 ⟨h.1,λI0 X w0 I g t a w us hrel hv=>by
  refine(h.2 I w us hrel.wld (b2A hrel hv hr)).mono ?_
  rintro e w' ⟨v,rfl,hres,hbel⟩
  exact⟨v,_,o,[],_,g,rfl,hrel.grow hbel (I':=nxt I w w') (λ_ _ h=>.inl h) (λ_ _ h=>h),b7g g hres,rfl,rfl,rfl⟩⟩
def E8 (f:Nat) (vs:List V) (os:List O) (Q:List V->List O->Prop):Prop:=a3p Tryz.prog f=true/\∀(I:Nat->Nat->Prop) (w:World) (g:Nat->Value) (args:List Value),
 RelI I (Xof g os) ⟨w,g,os.length,[]⟩ I g ⟨vs,os⟩ { tmps:=args.toArray,defers:=[] } w ->
 Calls Tryz.prog f args.toArray w λe w'=>∃us res os2 I' g',e=.returned (pkg us)/\(Q res os2/\∀i,i<os.length->g' i=g i)/\RelI I (Xof g os) ⟨w,g,os.length,[]⟩ I' g' ⟨res,os2⟩ { tmps:=us.toArray,defers:=[] } w'
theorem a4y {f:Nat} {vs vs':List V} {os':List O} {s:S} {ks:List Nat} {Q:List V->List O->Prop} (h:E8 f vs' os' Q) (hs:SubOk ks vs' os' vs s):Y9 f vs s.o λx o' ks'=>ks'=[]/\∃res os2,Q res os2/\x=a1i (upT ks (w8 s.o) res)/\o'=J6 ks (a0t ks (w8 s.o) os2) s.o :=
 ⟨h.1,λI0 X w0 I g t a w us hrel hv=>by
  have hs':SubOk ks vs' os' vs ⟨t,s.o⟩:=⟨hs.nd,hs.len,hs.args,hs.objs,hs.al,hs.low,hs.lowo⟩;refine(h.2 I w (sub ks g) us (c1l hrel hs' hv)).mono ?_
  rintro e w' ⟨us2,res,os2,I',g1,rfl,⟨hQ,hst⟩,h1⟩
  obtain⟨g2,-,h3,h4⟩:=called hrel hs' h1;have hm:=hs.len;rw[A0,M9] at hm
  exact⟨_,_,_,[],I',g2,rfl,h4 λi k hi=>by
   have hlt:=(d3J.1 hi).1;rw[hst i (by omega)];unfold sub
   rw[hi],h3,rfl,res,os2,hQ,rfl,rfl⟩⟩
theorem b3S {f:Nat} {vs vs':List V} {os':List O} {s:S} {ks:List Nat} {Q:List V->List O->Prop} (h:y7 f vs' os' Q) (hs:SubOk ks vs' os' vs s):Y9 f vs s.o λx o' ks'=>ks'=ks/\∃res os2,Q res os2/\x=a1i (upT ks (w8 s.o) res)/\o'=J6 ks (a0t ks (w8 s.o) os2) (a0C ks s.o) :=
 ⟨h.1,λI0 X w0 I g t a w us hrel hv=>by
  have hs':SubOk ks vs' os' vs ⟨t,s.o⟩:=⟨hs.nd,hs.len,hs.args,hs.objs,hs.al,hs.low,hs.lowo⟩;refine(h.2 I w (sub ks g) us (c1l hrel hs' hv)).mono ?_
  rintro e w' ⟨us2,res,os2,I',g1,rfl,hQ,h1⟩
  obtain⟨g2,h2,h3,-⟩:=called hrel hs' h1
  exact⟨_,_,_,ks,I',g2,rfl,h2,h3,rfl,res,os2,hQ,rfl,rfl⟩⟩
end
section
section
variable {I0:Nat->Nat->Prop} {X:Nat->Prop} {w0:W0} {I:Nat->Nat->Prop} {g:Nat->Value} {s:S} {a:Act} {w:World}
theorem b7k {v:Value} {x:V} (h:AtV I w g v x) (h1:b8V x=true):v.oneCell'=true:=by
 cases h with
 | d h=>exact h.one
 | ag=>cases h1
 | tu=>cases h1
 | em=>rfl
 | own=>rfl
 | ptr=>rfl
 | cl=>rfl
 | el=>rfl
 | ro=>rfl
 | mp=>rfl
 | bs=>rfl
 | jk=>cases h1
theorem b2F:∀ {l:List V} {us:List Value},o7 I w g us l->a5p l=true->∀u∈us,u.oneCell'=true
 | [],us,h,_=>by rw[h.unnil];simp
 | x::l,us,h,h1=>by
  obtain⟨u,us',rfl,h2,h3⟩:=h.uncons;rw[a5p] at h1
  split at h1
  ·rename_i hx;intro y hy
   rcases d3R.1 hy with rfl|hy
   ·exact b7k h2 hx
   ·exact b2F h3 h1 y hy
  ·cases h1
theorem a6u {v:Value} {x:V} {cs:List V} (h:AtV I w g v x) (hc:a2i x=some cs):∃us,v.cells=us.toArray/\o7 I w g us cs/\∀u∈us,u.oneCell'=true:=by
 have single:b8V x=true->cs=[x]->∃us,v.cells=us.toArray/\o7 I w g us cs/\∀u∈us,u.oneCell'=true:=λh1 e=>by
  subst e;have hv:=b7k h h1;refine⟨[v],?_,.cons h (.nil I w g),λu hu=>by simp at hu;subst hu;exact hv⟩;cases v <;> first|rfl|cases hv
 cases x with
 | ag l =>
  rw[a2i] at hc
  split at hc
  ·rename_i h1;injection hc with hc;subst hc;obtain⟨us,rfl,h2⟩:=h.unag;exact⟨us,rfl,h2,b2F h2 h1⟩
  ·cases hc
 | jk=>cases hc
 | tu l=>cases hc
 | d x=>injection hc with hc;exact single rfl hc.symm
 | em=>injection hc with hc;exact single rfl hc.symm
 | bs k n=>injection hc with hc;exact single rfl hc.symm
 | own k=>injection hc with hc;exact single rfl hc.symm
 | ptr k off=>injection hc with hc;exact single rfl hc.symm
 | cl f ks=>injection hc with hc;exact single rfl hc.symm
 | el k i sz off=>injection hc with hc;exact single rfl hc.symm
 | ro l off=>injection hc with hc;exact single rfl hc.symm
 | mp k=>injection hc with hc;exact single rfl hc.symm
def Yld (I0:Nat->Nat->Prop) (X:Nat->Prop) (w0:W0) (g:Nat->Value) (s:S) (a:Act) (w:World) (m:Sem Value) (K:V->Prop):Prop:=∃v x w' I',m.run Tryz.prog w=.ok v w'/\RelI I0 X w0 I' g s a w'/\AtV I' w' g v x/\K x
theorem yld {m:Sem Value} {K:V->Prop} (h:RelI I0 X w0 I g s a w) {v:Value} {x:V} (hm:m.run Tryz.prog w=.ok v w) (hv:AtV I w g v x) (hK:K x):Yld I0 X w0 g s a w m K:=⟨v,x,w,I,hm,h,hv,hK⟩
theorem atb (b:Bool):AtV I w g (.bool b) (vb b):=.d (.sc _ rfl)
theorem ati (k:IntKind) (n:Int):AtV I w g (.int k n) (vi k n):=.d (.sc _ rfl)
theorem ats (b:ByteArray):AtV I w g (.string b) (vs b):=.d (.sc _ rfl)
theorem AtV.sc {v u:Value} (h:AtV I w g v (.d (.sc u))):v=u:=by cases h with|d h=>cases h;rfl
theorem b5J {rows:List (List D)} {i:Int} {row:List D} (h:j5.get rows i=some row):0<=i/\rows[i.toNat]?=some row:=by
 simp only[j5] at h
 split at h
 ·exact⟨by assumption,h⟩
 ·cases h
theorem a7w (h:RelI I0 X w0 I g s a w) {K:V->Prop} {t:Nat} (ht:j9 t=true) {v:Value} {x:V} (hv:AtV I w g v x) (hK:L5 j5 s.o K t x):∃u y,(Instr.loadAt t v).run Tryz.prog w=.ok u w/\AtV I w g u y/\K y:=by
 cases x <;> try exact hK.elim
 case ptr k off =>
  simp only[L5] at hK
  split at hK <;> try exact hK.elim
  rename_i cs ho
  split at hK <;> try exact hK.elim
  rename_i l hl
  split at hK <;> try exact hK.elim
  rename_i x hx;obtain⟨b,us,t',h1,h2,h3,_⟩:=h.obj k _ (C7 ho (by simp));cases hv with
  | ptr k off b' hg =>
   rw[h1] at hg;injection hg with hg;injection hg with hg;injection hg with hg;subst hg;rw[a17] at hl;obtain⟨e,he⟩:=a18 hl;have hu:o7 I w g ((us.drop off).take (ty t).sz) l:=by rw[e];exact(h3.drop off).take _
   obtain⟨v,h4,h5⟩:=b29 (w:=w) (b:=b) (p:=off) ht (by rw[hu.1,he]) (λj u hj=>by
    rw[d4y] at hj
    split at hj
    ·rw[d4r] at hj;rw[cell_of_row w b (off+j) (us++t'.2).toArray t'.1 (0,0) h2];have hlt:=(d3J.1 hj).1;simp only[d5B];rw[d4b hlt];exact hj
    ·cases hj) hu hx
   exact⟨v,x,h4,h5,hK⟩
 case ro cs off =>
  simp only[L5] at hK
  split at hK <;> try exact hK.elim
  rename_i l hl
  split at hK <;> try exact hK.elim
  rename_i x hx;cases hv with
  | ro b o off us cs hI hc hd =>
   rw[a17] at hl;obtain⟨e,he⟩:=a18 hl;have hu:F8 I w ((us.drop off).take (ty t).sz) l:=by rw[e];exact(hd.drop off).take _
   obtain⟨v,h4,h5⟩:=b29 (w:=w) (b:=b) (p:=o+off) ht (by rw[hu.1,he]) (λj u hj=>by
    rw[d4y] at hj
    split at hj
    ·rw[d4r] at hj;rw[d48];exact hc _ _ hj
    ·cases hj) (hu.toV g) hx
   exact⟨v,x,h4,h5,hK⟩
 case el k i sz off =>
  simp only[L5] at hK
  split at hK <;> try exact hK.elim
  rename_i z e rows ho
  split at hK <;> try exact hK.elim
  rename_i hsz;rw[H0] at hsz
  split at hK <;> try exact hK.elim
  rename_i row hrow
  split at hK <;> try exact hK.elim
  rename_i l hl
  split at hK <;> try exact hK.elim
  rename_i x hx;obtain⟨us,h1,h2,h3,_⟩:=h.obj k _ (C7 ho (by simp));have hrow':=b5J hrow;cases hv with
  | el k i sz off b n cap hg =>
   rw[hg] at h1;obtain⟨A',cap',e0⟩:=a1n h1;injection e0 with _ e0 _;subst e0;rw[a17] at hl;obtain⟨e1,he⟩:=a18 hl;have hrl:=h2 _ (d3U hrow'.2);have hlt:i.toNat<rows.length:=(d3J.1 hrow'.2).1
   have hfit:off+(ty t).sz<=(ty e).sz\/(ty t).sz=0:=by
    rw[e1,d4n,d4l,hrl] at he;omega
   have hsub:i.toNat * (ty e).sz+(ty e).sz<=rows.length * (ty e).sz:=by rw[<-d4R];exact d4A _ hlt
   rw[<-hsz]
   have hu:F8 I w ((us.drop (i.toNat * (ty e).sz+off)).take (ty t).sz) l:=by
    refine⟨by rw[d4n,d4l,h1.1,he];omega,λj u d hj hd=>?_⟩;rw[d4y] at hj
    split at hj
    ·rename_i hjl;rw[d4r,d48] at hj;refine h3.2 _ _ _ hj ?_;rw[a16 h2 hrow'.2 (by omega)];rw[e1,d4y,d3I hjl,d4r] at hd;exact hd
    ·cases hj
   obtain⟨v,h4,h5⟩:=b29 (w:=w) (b:=b) (p:=i.toNat * (ty e).sz+off) ht (by rw[hu.1,he]) (λj u hj=>by
    rw[d4y] at hj
    split at hj
    ·rename_i hjl;rw[d4r] at hj;have hin:i.toNat * (ty e).sz+off+j<rows.length * (ty e).sz:=by omega
     rw[World.ownsRow.cellAt h1 _ hin];exact hj
    ·cases hj) (hu.toV g) hx
   exact⟨v,x,h4,h5,hK⟩
theorem c4S (h:RelI I0 X w0 I g s a w) {K:V->Prop} {t:Nat} (ht:j9 t=true) {v:Value} {x:V} (hv:AtV I w g v x) (hK:L5 j5 s.o K t x):Yld I0 X w0 g s a w (Instr.loadAt t v) K:=by
 obtain⟨u,y,h1,h2,h3⟩:=a7w h ht hv hK;exact yld h h1 h2 h3
theorem c1m (h:RelI I0 X w0 I g s a w) {K:V->Prop} {t i:Nat} (ht:j9 t=true) {v:Value} {x:V} (hv:AtV I w g v x) (hK:a0s K t i x):Yld I0 X w0 g s a w (Instr.fieldAt t v i) K:=by
 simp only[a0s] at hK
 split at hK <;> try exact hK.elim
 rename_i off sz hf;obtain⟨fs,f,h1,h2,h3,h4,_⟩:=c1g ht (a3n hf)
 have hs:(sizeOf f.type).run Tryz.prog w=.ok (sz+1) w:=by
  cases hi:Tryz.prog.info? f.type with
  | none=>rw[hi] at h4;cases h4
  | some i=>rw[hi] at h4;simp only[d5c,Option.some.injEq] at h4;simp[sizeOf,typeInfo,hi,h4]
 have key:∀b p,(Instr.fieldAt t (.pointer (some ⟨b,p,none⟩)) i).run Tryz.prog w=.ok (.pointer (some ⟨b,p+off,none⟩)) w:=λb p=>by
  simp[Instr.fieldAt,run_underlying h1,h2,Instr.sureAddr,fieldPlace,hs,Addr.add_lit,h3]
 cases x <;> try exact hK.elim
 case ptr k o =>
  cases hv with
  | ptr k o b hg=>exact yld h (key b o) (.ptr k (o+off) b hg) hK
 case el k i sz o =>
  cases hv with
  | el k i sz o b n cap hg=>exact yld h (key b _) (by rw[d48];exact .el k i sz (o+off) b n cap hg) hK
 case ro cs o =>
  cases hv with
  | ro b o' off' us cs hI hc hd=>exact yld h (key b _) (by rw[d48];exact .ro b o' (o+off) us cs hI hc hd) hK
theorem c4T (h:RelI I0 X w0 I g s a w) {K:V->Prop} {t i:Nat} (ht:j9 t=true) (hty:∀u,(ty t).fty[i]?=some u->j9 u=true) {v:Value} {x:V} (hv:AtV I w g v x) (hK:b3J K t i x):Yld I0 X w0 g s a w (Instr.field t v i) K:=by
 simp only[b3J] at hK
 split at hK <;> try exact hK.elim
 rename_i u off sz cs hu hf
 split at hK <;> try exact hK.elim
 rename_i l hl
 split at hK <;> try exact hK.elim
 rename_i y hy;obtain⟨fs,f,h1,h2,h3,h4,h5,_⟩:=c1g ht (a3n hf);have h6:=a3n hu;rw[h5] at h6;injection h6 with h6;subst h6;have hku:=hty _ h5;obtain⟨us,rfl,h7⟩:=hv.unag;rw[a17] at hl;obtain⟨e,he⟩:=a18 hl;have hul:o7 I w g ((us.drop off).take (ty f.type).sz) l:=by rw[e];exact(h7.drop off).take _
 obtain⟨hx,hone⟩:=b28 hul hy;refine yld h ?_ hx hK;simp only[Instr.field,Sem.run_bind,run_underlying h1,Result.andThen_ok,h2,asAgg,Sem.run_pure,part,b27 hku,h3];cases hag:(ty f.type).agg with
 | true =>
  have hsz:=Z2 hku w
  simp[hsz]
 | false =>
  have hlen:=hone hag;simp only[d5l,d6l]
  have hlt:off<us.length:=by
   rw[d4n,d4l] at hlen;omega
  have:us.toArray[off]?=some (((us.drop off).take (ty f.type).sz).getD 0 undef):=by
   simp only[d5B,d3W,d4y,d4r,d4E];have hsz:0<(ty f.type).sz:=by rw[d4n] at hlen;omega
   rw[d3I hsz,d3H hlt];rfl
  rw[this];rfl
theorem a8A (h:RelI I0 X w0 I g s a w) {v:Value} {x:V} {o:Option Nat} {rows:List (List D)} (hv:AtV I w g v x) (hr:W8 s.o x=some (o,rows)):AtD I w v (.sl (o.getD 0) rows)/\(o=none->rows=[]):=by
 cases x with
 | d x =>
  cases x with
  | sc u=>simp[W8] at hr
  | sl sz rows' =>
   simp only[W8,Option.some.injEq,Prod.mk.injEq] at hr;obtain⟨rfl,rfl⟩:=hr;cases hv with
   | d h=>exact⟨h,by simp⟩
 | em =>
  simp only[W8,Option.some.injEq,Prod.mk.injEq] at hr;obtain⟨rfl,rfl⟩:=hr;cases hv;exact⟨.nil _ _ _,λ_=>rfl⟩
 | own k =>
  have hr':=hr;simp only[W8] at hr
  split at hr
  ·rename_i e rows' ho;simp only[Option.some.injEq,Prod.mk.injEq] at hr;obtain⟨rfl,rfl⟩:=hr;refine⟨a9f h hv ?_,by simp⟩;simp only[toD,ho];rfl
  ·cases hr
 | ag cs=>simp[W8] at hr
 | tu cs=>simp[W8] at hr
 | ptr k off=>simp[W8] at hr
 | cl f ks=>simp[W8] at hr
 | el k i sz off=>simp[W8] at hr
 | ro cs off=>simp[W8] at hr
 | mp k=>simp[W8] at hr
 | bs k n=>simp[W8] at hr
 | jk=>simp[W8] at hr
theorem b7l {sz:Nat} {o:Option Nat} {v:Value} {rows:List (List D)} (hs:c4N sz o=true) (h:AtD I w v (.sl (o.getD 0) rows)) (hn:o=none->rows=[]):AtD I w v (.sl sz rows):=by
 cases o with
 | none =>
  rw[hn rfl] at h ⊢;obtain⟨A,cap,rfl,-⟩:=h.slice;exact .nil _ _ _
 | some n =>
  rw[c4N,H0] at hs;subst hs;exact h
theorem c1n (h:RelI I0 X w0 I g s a w) {K:V->Prop} {t:Nat} (ht:j9 t=true) (hte:∀e,(ty t).elem=some e->j9 e=true) (htv:(ty t).kind=.array->∀e,(ty t).val=some e->j9 e=true) {v u:Value} {x i:V} (hv:AtV I w g v x) (hu:AtV I w g u i) (hK:E1 j5 s.o K t x i):Yld I0 X w0 g s a w (Instr.indexAt t v u) K:=by
 simp only[E1] at hK
 split at hK <;> try exact hK.elim
 rename_i k n
 split at hK
 ·rename_i hkd
  split at hK <;> try exact hK.elim
  rename_i e he
  split at hK <;> try exact hK.elim
  rename_i j hj;have hun:=a9e ht hkd he;have hu':=hu.sc;subst hu'
  have hn:(0<=n/\n<((ty t).alen:Int))/\n.toNat=j:=by
   simp only[j5] at hj
   split at hj
   ·rename_i h1;injection hj with hj;exact⟨h1,hj⟩
   ·cases hj
  obtain⟨hn,rfl⟩:=hn
  have key:∀b p,(Instr.indexAt t (.pointer (some ⟨b,p,none⟩)) (.int k n)).run Tryz.prog w=.ok (.pointer (some ⟨b,p+n.toNat * (ty e).sz,none⟩)) w:=λb p=>by
   simp[Instr.indexAt,asIntOf,run_underlying hun,hn,Instr.sureAddr,Z2 (htv hkd e he),Addr.add_lit]
  cases x <;> try exact hK.elim
  case ptr k' o =>
   cases hv with
   | ptr k' o b hg=>exact yld h (key b o) (.ptr k' _ b hg) hK
  case el k' i sz o =>
   cases hv with
   | el k' i sz o b n' cap hg=>exact yld h (key b _) (by rw[d48];exact .el k' i sz _ b n' cap hg) hK
  case ro cs o =>
   cases hv with
   | ro b o' off' us cs hI hc hd=>exact yld h (key b _) (by rw[d48];exact .ro b o' _ us cs hI hc hd) hK
 split at hK <;> try exact hK.elim
 rename_i e he
 split at hK
 ·rename_i k' m hbs
  split at hK <;> try exact hK.elim
  rename_i j hj
  have hx:x=.bs k' m:=by
   unfold bsV at hbs
   split at hbs
   ·injection hbs with hbs;injection hbs with e1 e2;rw[e1,e2]
   ·cases hbs
  subst hx;obtain⟨b,cap,hg,rfl,hle⟩:=hv.unbs;have hu':=hu.sc;subst hu'
  have hn:(0<=n/\n<(m:Int))/\n.toNat=j:=by
   simp only[j5] at hj
   split at hj
   ·rename_i h1;injection hj with hj;exact⟨h1,hj⟩
   ·cases hj
  obtain⟨hn,rfl⟩:=hn;have hun:=K5 ht he;refine yld h (v:=.pointer (some ⟨b,n.toNat * (ty e).sz,none⟩)) ?_ (.ptr k' _ b hg) hK
  simp[Instr.indexAt,asIntOf,run_underlying hun,hn,Z2 (hte e he),Addr.add_lit]
 split at hK
 ·rename_i k' e' rows hr
  split at hK <;> try exact hK.elim
  rename_i hee;rw[H0] at hee;subst hee
  split at hK <;> try exact hK.elim
  rename_i row hrow;have hrow':=b5J hrow;have hu':=hu.sc;subst hu';unfold a80 at hr
  split at hr <;> try cases hr
  rename_i k1
  split at hr <;> cases hr
  rename_i ho;obtain⟨us,h1,h2,h3,_⟩:=h.obj k' _ (C7 ho (by simp));obtain⟨rfl,A,m,cap,hg⟩:=hv.unown;rw[a2V h1] at hg ⊢;have hlt:n.toNat<rows.length:=(d3J.1 hrow'.2).1;have hn:0<=n/\n<(rows.length:Int):=⟨hrow'.1,by omega⟩;have hun:=K5 ht he
  rcases h1.2 with⟨_,e2⟩|⟨b,cap',cur,e1,_⟩
  ·omega
  ·refine yld h (v:=.pointer (some ⟨b,n.toNat * (ty e').sz+0,none⟩)) ?_ (.el k' n (ty e').sz 0 b _ cap' e1) hK;rw[e1]
   simp[Instr.indexAt,asIntOf,run_underlying hun,hn,Z2 (hte e' he),Addr.add_lit]
 split at hK <;> try exact hK.elim
 rename_i sz rows hr
 split at hK <;> try exact hK.elim
 rename_i hsz;rw[H0] at hsz;subst hsz
 split at hK <;> try exact hK.elim
 rename_i row hrow;obtain⟨h1,_⟩:=a8A h hv hr;simp only[d6h] at h1
 have hrow':0<=n/\rows[n.toNat]?=some row:=by
  simp only[j5] at hrow
  split at hrow
  ·exact⟨by assumption,hrow⟩
  ·cases hrow
 have hu':=hu.sc;subst hu';have hlt:n.toNat<rows.length:=(d3J.1 hrow'.2).1;obtain⟨A,cap,rfl,hcap,h2⟩:=h1.slice
 rcases h2 with rfl|⟨b,off,us,rfl,hI,hrl,hl,hc,hd⟩
 ·simp at hlt
 ·have hn:0<=n/\n<(rows.length:Int):=⟨hrow'.1,by omega⟩;have hun:=K5 ht he;have hrsz:=hrl _ (d3U hrow'.2);refine yld h (v:=.pointer (some ⟨b,off+n.toNat * (ty e).sz,none⟩)) ?_ (.ro b (off+n.toNat * (ty e).sz) 0 ((us.drop (n.toNat * (ty e).sz)).take (ty e).sz) row ?_ (λj y hy=>?_) ⟨?_,λj y d hy hdj=>?_⟩) hK
  ·simp[Instr.indexAt,asIntOf,run_underlying hun,hn,Z2 (hte e he),Addr.add_lit]
  ·refine hI.down ?_;rw[hrsz];have:n.toNat * (ty e).sz+(ty e).sz<=rows.length * (ty e).sz:=by rw[<-d4R];exact d4A _ hlt
   omega
  ·rw[d4y] at hy
   split at hy
   ·rw[d4r] at hy;rw[d48];exact hc _ _ hy
   ·cases hy
  ·rw[d4n,d4l,hl,hrsz];have:n.toNat * (ty e).sz+(ty e).sz<=rows.length * (ty e).sz:=by rw[<-d4R];exact d4A _ hlt
   omega
  ·rw[d4y] at hy
   split at hy
   ·rename_i hj;rw[d4r] at hy;exact hd.2 _ _ _ hy (by rw[a16 hrl hrow'.2 hj];exact hdj)
   ·cases hy
end
end
section
theorem a9p {j k:IntKind} (h:keq j k=true):j=k:=by cases j <;> cases k <;> first|rfl|cases h
theorem a2X (b c:Bool):bEq b c=(b == c):=by cases b <;> cases c <;> rfl
theorem b3T {t:Nat} (h:j9 t=true) {d:TypeDesc} (hu:Tryz.prog.underlying t=some d) (hd:b3E (some d)=some false):(ty t).agg=false:=by
 have:=(a5o t h).agg;rw[hu,hd] at this;exact(Option.some.inj this).symm
def U9:D->Value
 | .sc v=>v
 | .sl _ _=>.nilFunc
def a1Q:R->Value
 | .one d=>U9 d
 | .ag ds=>.agg (ds.map U9).toArray
theorem b1q {k:TK} {d:D} (h:a1x k d=true):∃v,d=.sc v:=by
 cases d with
 | sc v=>exact⟨v,rfl⟩
 | sl sz rows=>cases k <;> cases h
theorem a9q:∀ {us:List Nat} {fs:List (Nat×Nat)} {n:Nat} {ds:List D},a0w us fs n ds=true->∀d∈ds,∃v,d=.sc v
 | [],[],n,[],_=>by simp
 | u::us,(off,1)::fs,n,d::ds,h=>by
  rw[a0w] at h
  split at h
  ·split at h
   ·rename_i h1;intro x hx
    rcases d3R.1 hx with rfl|hx
    ·exact b1q h1
    ·exact a9q h x hx
   ·cases h
  ·cases h
theorem c8h {t:Nat} {r:R} (h:a4j t r=true):(∃v,r=.one (.sc v))\/∃ds,r=.ag ds/\∀d∈ds,∃v,d=.sc v:=by
 cases r with
 | one d=>obtain⟨v,rfl⟩:=b1q h;exact .inl ⟨v,rfl⟩
 | ag ds =>
  rw[a4j] at h
  split at h
  ·split at h
   ·exact .inr ⟨ds,rfl,a9q h⟩
   ·cases h
  ·cases h
section
variable {I:Nat->Nat->Prop} {w:World}
theorem AtD.val {v:Value} {u:Value} (h:AtD I w v (.sc u)):v=u:=by cases h;rfl
theorem a4V {t:Nat} {v:Value} {r:R} (h:AtR I w v r) (hk:a4j t r=true):v=a1Q r:=by
 rcases c8h hk with⟨u,rfl⟩|⟨ds,rfl,hs⟩
 ·exact AtD.val h
 ·obtain⟨us,rfl,hl,hd⟩:=h
  have:us=ds.map U9:=by
   refine d5e λi=>?_
   rw[d4p];cases hi:ds[i]? with
   | none =>
    rw[List.getElem?_eq_none_iff] at hi;rw[d49 (by omega)];rfl
   | some d =>
    have hlt:i<us.length:=by rw[hl];exact(d3J.1 hi).1
    obtain⟨u,rfl⟩:=hs d (d3U hi);rw[d3H hlt];exact congrArg some (hd i _ _ (d3H hlt) hi).val
  rw[this];rfl
end
theorem b3U (m n:Nat):b7c m n=(m == n):=by
 rw[d5r,d4H];exact⟨d6c,λh=>by rw[h];exact Nat.beq_refl n⟩
theorem a6v (m n:Int):c0O m n=(m == n):=by
 rw[d5r,d4H];cases m <;> cases n <;> simp[c0O,b3U]
 exact Int.ofNat_inj.symm
theorem a3J:∀x y:List UInt8,a87 x y=(x == y)
 | [],[]=>rfl
 | [],_::_=>rfl
 | _::_,[]=>rfl
 | x::l,y::m=>by
  rw[a87,b3U,a3J l m]
  by_cases h:x=y
  ·subst h;simp
  ·have h1:(x.toNat == y.toNat)=false:=d4x.2 λe=>h (d6o.1 e)
   have h2:(x::l == y::m)=false:=d4x.2 λe=>h (by injection e)
   rw[h1,h2]
theorem a9r (x y:ByteArray):(x == y)=(x.data.toList == y.data.toList):=by
 rw[beq_toListBytes,ByteArray.toList_eq,ByteArray.toList_eq]
structure ScalOk (t:Nat) (x y:D) (d:TypeDesc):Prop where
 un:Tryz.prog.underlying t=some d
 ag:b3E (some d)=some false
 now:Instr.sameNow d (U9 x) (U9 y)=some (dEq y x)
 eq:∀(n:Nat) (w:World),(Op.equalIn (n+1) t (U9 x) (U9 y)).run Tryz.prog w=.ok (dEq y x) w
 chk:∀(e:Bool) (n:Nat) (w:World),(Instr.checkKey e (n+1) t (U9 x)).run Tryz.prog w=.ok () w
 bits:∀n,Instr.sameBits n (U9 x) (U9 x)=true
theorem a6w {k:TK} {d:D} (h:a1x k d=true):(∃q m,k=.int q/\d=.sc (.int q m))\/(∃s,k=.str/\d=.sc (.string s))\/∃b,k=.bool/\d=.sc (.bool b):=by
 unfold a1x at h
 split at h
 ·rename_i q q' m;obtain rfl:=a9p h;exact .inl ⟨_,m,rfl,rfl⟩
 ·exact .inr (.inl ⟨_,rfl,rfl⟩)
 ·exact .inr (.inr ⟨_,rfl,rfl⟩)
 ·cases h
theorem a4W {t:Nat} (ht:j9 t=true) {x y:D} (hx:a1x (ty t).kind x=true) (hy:a1x (ty t).kind y=true):∃d,ScalOk t x y d:=by
 rcases a6w hx with⟨q,m,hk,rfl⟩|⟨m,hk,rfl⟩|⟨m,hk,rfl⟩ <;> rcases a6w hy with⟨q',n,hk',rfl⟩|⟨n,hk',rfl⟩|⟨n,hk',rfl⟩ <;> rw[hk] at hk' <;> first|cases hk';done|skip
 ·injection hk' with hk'
  subst hk';have hu:=a5F ht hk;refine⟨_,hu,rfl,?_,λn w=>?_,λe n w=>?_,λn=>?_⟩
  ·simp only[Instr.sameNow,U9,dEq,a6v,d5R];rw[BEq.comm]
  ·simp only[Op.equalIn,run_underlying hu,U9,dEq,a6v,Sem.run_bind,Result.andThen_ok,d5R,Sem.run_pure];rw[BEq.comm]
  ·simp[Instr.checkKey,run_underlying hu,U9]
  ·cases n <;> simp[Instr.sameBits,U9]
 ·have hu:=a5E ht hk;refine⟨_,hu,rfl,?_,λn w=>?_,λe n w=>?_,λn=>?_⟩
  ·simp only[Instr.sameNow,U9,dEq,a3J,a9r];rw[BEq.comm]
  ·simp only[Op.equalIn,run_underlying hu,U9,dEq,a3J,a9r,Sem.run_bind,Result.andThen_ok,Sem.run_pure];rw[BEq.comm]
  ·simp[Instr.checkKey,run_underlying hu,U9]
  ·have h0:(m == m)=true:=by rw[a9r];simp
   cases n <;> exact h0
 ·have hu:=b7f ht hk;refine⟨_,hu,rfl,?_,λn w=>?_,λe n w=>?_,λn=>?_⟩
  ·simp only[Instr.sameNow,U9,dEq,a2X];rw[BEq.comm]
  ·simp only[Op.equalIn,run_underlying hu,U9,dEq,a2X,Sem.run_bind,Result.andThen_ok,Sem.run_pure];rw[BEq.comm]
  ·simp[Instr.checkKey,run_underlying hu,U9]
  ·cases n <;> simp[Instr.sameBits,U9]
theorem a7x {u:Nat} {us:Array Value} {off:Nat} {v:Value} {w:World} (h:(ty u).agg=false) (hu:j9 u=true) (hv:us[off]?=some v):(part u us off).run Tryz.prog w=.ok v w:=by
 simp only[part,Sem.run_bind,b27 hu,h,Result.andThen_ok,d5l,d6l,hv,Sem.run_pure]
def FOk:List Field->Nat->List D->Prop
 | [],_,[]=>True
 | f::fs,n,d::ds=>f.offset=n/\j9 f.type=true/\(f.name != "_")=true/\a1x (ty f.type).kind d=true/\FOk fs (n+1) ds
 | _,_,_=>False
theorem c1o:∀ {fs:List Field} {fl:List (Nat×Nat)} {n:Nat} {ds:List D},fs.map (·.offset)=fl.map (·.1)->(∀f∈fs,j9 f.type=true/\(f.name != "_")=true)->a0w (fs.map (·.type)) fl n ds=true->FOk fs n ds
 | [],[],n,[],_,_,_=>trivial
 | [],[],n,_::_,_,_,h=>by cases h
 | [],_::_,n,ds,h,_,_=>by cases h
 | f::fs,[],n,ds,h,_,_=>by cases h
 | f::fs,(off,sz)::fl,n,ds,ho,hk,h=>by
  rw[d4a,d4a] at ho;injection ho with ho1 ho2;simp only at ho1;rw[d4a] at h;unfold a0w at h
  split at h
  ·contradiction
  ·rename_i u us off' fs' n' d ds e1 e2;injection e1 with e1 e3;injection e2 with e2 e4;injection e2 with e2 e5;subst e1;subst e3;subst e4;subst e2
   split at h
   ·rename_i h1
    split at h
    ·rename_i h2;rw[H0] at h1;exact⟨ho1.trans h1,(hk f (d3L ..)).1,(hk f (d3L ..)).2,h2,c1o ho2 (λf hf=>hk f (d3M _ hf)) h⟩
    ·cases h
   ·cases h
  ·cases h
section
variable {w:World}
theorem b1r:∀ {fs:List Field} {n:Nat} {xs ys:List D} {us vs:List D},us.length=n->vs.length=n->FOk fs n xs->FOk fs n ys->∀m,(Op.eqFields (m+1) ((us++xs).map U9).toArray ((vs++ys).map U9).toArray fs).run Tryz.prog w=.ok (b5E ys xs) w
 | [],n,[],[],us,vs,_,_,_,_,m=>rfl
 | f::fs,n,x::xs,y::ys,us,vs,hu,hv,hx,hy,m=>by
  obtain⟨h1,h2,h3,h4,h5⟩:=hx;obtain⟨g1,g2,g3,g4,g5⟩:=hy;obtain⟨d,hd⟩:=a4W h2 h4 g4;have hag:=b3T h2 hd.un hd.ag;have px:(part f.type ((us++x::xs).map U9).toArray f.offset).run Tryz.prog w=.ok (U9 x) w:=a7x hag h2 (by rw[h1,<-hu];simp);have py:(part f.type ((vs++y::ys).map U9).toArray f.offset).run Tryz.prog w=.ok (U9 y) w:=a7x hag h2 (by rw[h1,<-hv];simp);have ih:=b1r (fs:=fs) (n:=n+1) (us:=us++[x]) (vs:=vs++[y]) (by simp[hu]) (by simp[hv]) h5 g5 m;rw[d4q,d4q] at ih;simp only[d6d] at ih;rw[Op.eqFields,d3I (by simpa using h3)];simp only[Sem.run_bind,px,py,Result.andThen_ok,hd.eq m w];rw[b5E];cases dEq y x with
  | false=>rfl
  | true=>exact ih
theorem a9s {em:Bool} {m:Nat}:∀ {fs:List Field} {n:Nat} {xs us:List D},us.length=n->FOk fs n xs->(forIn fs PUnit.unit λf (_:PUnit)=>(if f.name ≠ "_" then do Instr.checkKey em (m+1) f.type (<-part f.type ((us++xs).map U9).toArray f.offset);pure (.yield PUnit.unit) else pure (.yield PUnit.unit):Sem (ForInStep PUnit))).run Tryz.prog w=.ok PUnit.unit w
 | [],n,[],us,_,_=>rfl
 | f::fs,n,x::xs,us,hu,hx=>by
  obtain⟨h1,h2,h3,h4,h5⟩:=hx;obtain⟨d,hd⟩:=a4W h2 h4 h4;have hag:=b3T h2 hd.un hd.ag;have px:(part f.type ((us++x::xs).map U9).toArray f.offset).run Tryz.prog w=.ok (U9 x) w:=a7x hag h2 (by rw[h1,<-hu];simp);have ih:=a9s (em:=em) (m:=m) (fs:=fs) (n:=n+1) (us:=us++[x]) (by simp[hu]) h5;rw[d4q] at ih;simp only[d6d] at ih;rw[List.forIn_cons];rw[d3I (by simpa using h3)];simp only[Sem.run_bind,px,Result.andThen_ok,hd.chk em m w,Sem.run_pure];exact ih
theorem b3V:∀ {n:Nat} {xs:List D},(∀x∈xs,Instr.sameBits n (U9 x) (U9 x)=true)->Instr.sameBits (n+1) (.agg (xs.map U9).toArray) (.agg (xs.map U9).toArray)=true:=by
 intro n xs h;simp only[Instr.sameBits,d4G,d59,d4f];intro p hp;obtain⟨i,hi⟩:=d42.1 hp;rw[List.getElem?_zip_eq_some] at hi;have e:p.1=p.2:=Option.some.inj (hi.1.symm.trans hi.2);have h2:=hi.1;simp only[d4p] at h2;obtain⟨x,hx,hpx⟩:=d4S.1 h2;obtain⟨p1,p2⟩:=p;simp only at e hpx ⊢;rw[<-e,<-hpx];exact h x (d3U hx)
theorem a9t {t:Nat}:∀ {l:List Nat},b7d t l=true->t∈l
 | [],h=>by cases h
 | u::l,h=>by
  rw[b7d] at h
  split at h
  ·rename_i e;rw[H0] at e;rw[e];exact d3L ..
  ·exact d3M _ (a9t h)
theorem a4z {t:Nat} (ht:j9 t=true) (hf:∀u∈(ty t).fty,j9 u=true) {ds:List D} (h:a4j t (.ag ds)=true):∃fs,Tryz.prog.underlying t=some (.struct fs)/\Tryz.prog.stoodInHeld t=false/\FOk fs.toList 0 ds:=by
 rw[a4j] at h
 split at h
 ·rename_i hst
  split at h
  ·rename_i hs;have hm:=b7a t (a9t hs);unfold b5A at hm;simp only[d3N,d5W] at hm;obtain⟨⟨h1,_⟩,h2⟩:=hm;obtain⟨fs,hu,h3,h4⟩:=a7p ht hst;rw[hu] at h2;refine⟨fs,hu,h1,c1o (fl:=(ty t).flds) ?_ (λf hfm=>⟨hf _ (by rw[<-h4];exact List.mem_map_of_mem hfm),d4f.1 h2 f hfm⟩) (by rw[h4];exact h)⟩;have:=congrArg (List.map Prod.fst) h3
   simpa [d5I,Function.comp_def] using this
  ·cases h
 ·cases h
structure KeyOk (t:Nat) (x y:R) (w:World):Prop where
 eq:(Op.equal t (a1Q x) (a1Q y)).run Tryz.prog w=.ok (rEq y x) w
 chk:∀e,(Instr.checkKey e 10000 t (a1Q x)).run Tryz.prog w=.ok () w
 bits:Instr.sameBits 10000 (a1Q x) (a1Q x)=true
 now:∀d,Tryz.prog.underlying t=some d->Instr.sameNow d (a1Q x) (a1Q y)=some (rEq y x)\/Instr.sameNow d (a1Q x) (a1Q y)=none
theorem b2G {t:Nat} (ht:j9 t=true) (hf:∀u∈(ty t).fty,j9 u=true) {x y:R} (hx:a4j t x=true) (hy:a4j t y=true):KeyOk t x y w:=by
 cases x with
 | one x =>
  cases y with
  | one y =>
   obtain⟨d,hd⟩:=a4W ht hx hy
   exact⟨hd.eq 9999 w,λe=>hd.chk e 9999 w,hd.bits _,λd' hd'=>by
    have h:=hd.un;rw[hd'] at h;injection h with h;subst h
    exact .inl hd.now⟩
  | ag ys =>
   obtain⟨fs,hu,_⟩:=a4z ht hf hy;obtain⟨d,hd⟩:=a4W ht hx hx;have h:=hd.un;rw[hu] at h;injection h with h;subst h;cases hd.ag
 | ag xs =>
  obtain⟨fs,hu,hst,hfx⟩:=a4z ht hf hx;cases y with
  | one y =>
   obtain⟨d,hd⟩:=a4W ht hy hy;have h:=hd.un;rw[hu] at h;injection h with h;subst h;cases hd.ag
  | ag ys =>
   obtain⟨fs',hu',_,hfy⟩:=a4z ht hf hy;rw[hu] at hu';injection hu' with hu'
   injection hu' with hu'
   subst hu';have hfo:Tryz.prog.fieldsOf t=fs:=by unfold Program.fieldsOf;rw[hu]
   refine⟨?_,λe=>?_,?_,λd hd=>?_⟩
   ·have h1:=run_equalIn_struct w 9999 t (xs.map U9).toArray (ys.map U9).toArray (by rw[hfo];exact hu) hst;rw[hfo] at h1;exact h1.trans (b1r (us:=[]) (vs:=[]) rfl rfl hfx hfy 9998)
   ·have h1:=a9s (w:=w) (em:=e) (m:=9998) (us:=[]) rfl hfx;show (Instr.checkKey e (9999+1) t (.agg (xs.map U9).toArray)).run Tryz.prog w=_;rw[Instr.checkKey];simp only[Sem.run_bind,run_underlying hu,Result.andThen_ok];rw[<-Array.forIn_toList];exact(congrArg (λr=>r.andThen λa w'=>Sem.run Tryz.prog (pure ()) w') h1:_)
   ·refine b3V (n:=9999) λx hx'=>?_
    have key:∀ {fs:List Field} {n:Nat} {xs:List D},FOk fs n xs->∀x∈xs,Instr.sameBits 9999 (U9 x) (U9 x)=true:=by
     intro fs
     induction fs with
     | nil =>
      intro n xs h x hx;cases xs with
      | nil=>cases hx
      | cons y ys=>exact(show False from h).elim
     | cons f fs ih =>
      intro n xs h x hx;cases xs with
      | nil=>cases hx
      | cons y xs =>
       obtain⟨h1,h2,h3,h4,h5⟩:=h
       rcases d3R.1 hx with rfl|hx
       ·obtain⟨d,hd⟩:=a4W h2 h4 h4;exact hd.bits _
       ·exact ih h5 x hx
    exact key hfx x hx'
   ·rw[hu] at hd;injection hd with hd;subst hd;exact .inr rfl
end
section
variable {I:Nat->Nat->Prop} {w:World} {g:Nat->Value}
theorem a9u:∀ {xs:List V} {us:List Value} {ds:List D},o7 I w g us xs->a3D xs=some ds->F8 I w us ds
 | [],us,ds,h,hd=>by
  rw[a3D] at hd;injection hd with hd;subst hd;rw[h.unnil];exact .nil I w
 | x::l,us,ds,h,hd=>by
  obtain⟨u,us,rfl,h1,h2⟩:=h.uncons;cases x with
  | d x =>
   rw[a3D] at hd
   split at hd
   ·rename_i ys hys;injection hd with hd;subst hd;cases h1 with
    | d h1=>exact .cons h1 (a9u h2 hys)
   ·cases hd
  | _=>simp[a3D] at hd
end
end
end Go.Proofs.YtdjnoafijjepcaaGreat.Vm
end
