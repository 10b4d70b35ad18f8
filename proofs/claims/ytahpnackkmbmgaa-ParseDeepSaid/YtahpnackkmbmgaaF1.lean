/- Part 1 of the proof. Conditions: none. -/
import Derived.Test.YtahpnackkmbmgaaChecked
import Derived.WalkKit
import Derived.Lib.Hide
import Derived.Deep.Draws
import Derived.Laws.Rows
import Derived.Maps.AppendAt
import Derived.Deep.AppendLies
import Derived.RegionTactic
import Derived.OwnWalk
import Derived.WalkSpells
import Derived.Laws.Tables
import Derived.Laws.CopyRow
import Derived.OrdersIn
import Derived.Laws.Slices
import Derived.Laws.StructEq
import Derived.Maps.Keyed
import Derived.Test.YtahpnackkmbmgaaF0
set_option linter.all false
set_option linter.unusedVariables false
set_option linter.unusedSimpArgs false
section
namespace Go.Proofs.Ytahpnackkmbmgaa.Vm
open Go.RowKit
set_option maxRecDepth 100000
set_option maxHeartbeats 4000000
inductive TK where
 | int (k:IntKind)
 | bool
 | str
 | slice
 | struct
 | array
 | map
 | ptr
 | other
structure TI where
 kind:TK:=.other
 agg:Bool:=false
 sz:Nat:=1
 zero:List Value:=[]
 flds:List (Nat×Nat):=[]
 fty:List Nat:=[]
 elem:Option Nat:=none
 key:Option Nat:=none
 val:Option Nat:=none
 alen:Nat:=0
def b19:Option TypeDesc→Option Bool
 | some (.struct _)=>some true
 | some (.array _ _)=>some true
 | some _=>some false
 | none=>none
def b3k (P:Program):Option TypeDesc→Option (List (Nat×Option Nat)×List Nat)
 | some (.struct fs)=>some (fs.toList.map (fun f=>(f.offset,(P.info? f.type).map (·.size))),fs.toList.map (·.type))
 | _=>none
def a1i (P:Program) (t:Nat) (i:TI):Prop:=match i.kind with
 | .int k=>P.underlying t=some (.int k)
 | .bool=>P.underlying t=some .bool
 | .str=>P.underlying t=some .string
 | .slice=>P.underlying t=i.elem.map .slice∧i.elem.isSome=true
 | .ptr=>P.underlying t=i.val.map .pointer∧i.val.isSome=true
 | .array=>P.underlying t=i.val.map (.array i.alen)∧i.val.isSome=true
 | .map=>P.underlying t=(i.key.bind fun k=>i.val.map fun e=>.map k e)∧i.key.isSome=true∧i.val.isSome=true
 | .struct=>b3k P (P.underlying t)=some (i.flds.map (fun x=>(x.1,some x.2)),i.fty)
 | _=>True
def b7G:Value→Bool
 | .agg _=>true
 | _=>false
structure TyOk (P:Program) (t:Nat) (i:TI):Prop where
 info:(P.info? t).map (fun x=>(x.size,x.zero.map Value.cells))=some (i.sz,some i.zero.toArray)
 len:i.zero.length=i.sz
 zag:((P.info? t).bind (·.zero)).map b7G=some i.agg
 bytes:((P.info? t).map fun x=>decide (x.bytes≤1024))=some true
 agg:b19 (P.underlying t)=some i.agg
 under:a1i P t i
 elem:(match i.kind with|.slice=>true|_=>i.elem.isNone)=true
 flds:(match i.kind with|.struct=>true|_=>i.flds.isEmpty)=true
def ty (n:Nat):TI:=match Nat.blt n 98 with|true=>(match Nat.blt n 45 with|true=>(match Nat.blt n 23 with|true=>(match Nat.blt n 13 with|true=>(match Nat.blt n 5 with|true=>(match Nat.blt n 2 with|true=>(match Nat.blt n 1 with|true=>{ kind:=.other }|false=>{ sz:=1,zero:=[.nilFunc] })|false=>(match Nat.blt n 4 with|true=>{ kind:=.int .i64,sz:=1,zero:=[.int .i64 0] }|false=>{ kind:=.bool,sz:=1,zero:=[.bool false] }))|false=>(match Nat.blt n 9 with|true=>(match Nat.blt n 7 with|true=>{ kind:=.int .u8,sz:=1,zero:=[.int .u8 0] }|false=>{ kind:=.struct,agg:=true,sz:=4,zero:=[.int .i64 0,.int .i64 0,.bool false,.int .u8 0],flds:=[(0,1),(1,1),(2,1),(3,1)],fty:=[2,3,4,6] })|false=>(match Nat.blt n 12 with|true=>{ kind:=.str,sz:=1,zero:=[.string ⟨#[]⟩] }|false=>{ kind:=.int .u64,sz:=1,zero:=[.int .u64 0] })))|false=>(match Nat.blt n 18 with|true=>(match Nat.blt n 16 with|true=>(match Nat.blt n 15 with|true=>{ kind:=.struct,agg:=true,sz:=2,zero:=[.string ⟨#[]⟩,.int .u64 0],flds:=[(0,1),(1,1)],fty:=[9,12] }|false=>{ kind:=.ptr,sz:=1,zero:=[.pointer none],val:=some 214 })|false=>(match Nat.blt n 17 with|true=>{ kind:=.ptr,sz:=1,zero:=[.pointer none],val:=some 217 }|false=>{ kind:=.ptr,sz:=1,zero:=[.pointer none],val:=some 226 }))|false=>(match Nat.blt n 21 with|true=>(match Nat.blt n 20 with|true=>{ kind:=.struct,agg:=true,sz:=1,zero:=[.pointer none],flds:=[(0,1)],fty:=[17] }|false=>{ sz:=1,zero:=[.nilIface] })|false=>(match Nat.blt n 22 with|true=>{ kind:=.int .i32,sz:=1,zero:=[.int .i32 0] }|false=>{ kind:=.int .u8,sz:=1,zero:=[.int .u8 0] }))))|false=>(match Nat.blt n 34 with|true=>(match Nat.blt n 29 with|true=>(match Nat.blt n 26 with|true=>(match Nat.blt n 24 with|true=>{ kind:=.slice,sz:=1,zero:=[.slice none 0 0],elem:=some 25 }|false=>{ kind:=.struct,agg:=true,sz:=4,zero:=[.int .u8 0,.string ⟨#[]⟩,.int .i64 0,.slice none 0 0],flds:=[(0,1),(1,1),(2,1),(3,1)],fty:=[22,9,3,23] })|false=>(match Nat.blt n 27 with|true=>{ kind:=.slice,sz:=1,zero:=[.slice none 0 0],elem:=some 28 }|false=>{ kind:=.struct,agg:=true,sz:=10,zero:=[.int .u8 0,.string ⟨#[]⟩,.string ⟨#[]⟩,.int .i64 0,.bool false,.int .u8 0,.string ⟨#[]⟩,.int .i64 0,.slice none 0 0,.slice none 0 0],flds:=[(0,1),(1,1),(2,1),(3,1),(4,1),(5,4),(9,1)],fty:=[22,9,9,2,4,25,26] }))|false=>(match Nat.blt n 32 with|true=>(match Nat.blt n 31 with|true=>{ sz:=1,zero:=[.nilFunc] }|false=>{ kind:=.int .u8,sz:=1,zero:=[.int .u8 0] })|false=>(match Nat.blt n 33 with|true=>{ kind:=.other }|false=>{ sz:=1,zero:=[.nilFunc] })))|false=>(match Nat.blt n 40 with|true=>(match Nat.blt n 38 with|true=>(match Nat.blt n 35 with|true=>{ kind:=.other }|false=>{ sz:=1,zero:=[.nilFunc] })|false=>(match Nat.blt n 39 with|true=>{ kind:=.slice,sz:=1,zero:=[.slice none 0 0],elem:=some 47 }|false=>{ sz:=1,zero:=[.nilFunc] }))|false=>(match Nat.blt n 43 with|true=>(match Nat.blt n 41 with|true=>{ kind:=.slice,sz:=1,zero:=[.slice none 0 0],elem:=some 3 }|false=>{ sz:=1,zero:=[.nilFunc] })|false=>(match Nat.blt n 44 with|true=>{ kind:=.slice,sz:=1,zero:=[.slice none 0 0],elem:=some 46 }|false=>{ sz:=1,zero:=[.nilFunc] })))))|false=>(match Nat.blt n 76 with|true=>(match Nat.blt n 58 with|true=>(match Nat.blt n 52 with|true=>(match Nat.blt n 50 with|true=>(match Nat.blt n 48 with|true=>{ kind:=.struct,agg:=true,sz:=3,zero:=[.int .i64 0,.int .i64 0,.bool false],flds:=[(0,1),(1,1),(2,1)],fty:=[3,3,4] }|false=>{ sz:=1,zero:=[.nilFunc] })|false=>(match Nat.blt n 51 with|true=>{ kind:=.int .u16,sz:=1,zero:=[.int .u16 0] }|false=>{ kind:=.slice,sz:=1,zero:=[.slice none 0 0],elem:=some 9 }))|false=>(match Nat.blt n 54 with|true=>(match Nat.blt n 53 with|true=>{ kind:=.other }|false=>{ sz:=1,zero:=[.nilFunc] })|false=>(match Nat.blt n 55 with|true=>{ kind:=.slice,sz:=1,zero:=[.slice none 0 0],elem:=some 5 }|false=>{ sz:=1,zero:=[.nilFunc] })))|false=>(match Nat.blt n 63 with|true=>(match Nat.blt n 60 with|true=>(match Nat.blt n 59 with|true=>{ kind:=.other }|false=>{ sz:=1,zero:=[.nilFunc] })|false=>(match Nat.blt n 61 with|true=>{ kind:=.other }|false=>{ sz:=1,zero:=[.nilFunc] }))|false=>(match Nat.blt n 73 with|true=>(match Nat.blt n 64 with|true=>{ kind:=.ptr,sz:=1,zero:=[.pointer none],val:=some 28 }|false=>{ sz:=1,zero:=[.nilFunc] })|false=>(match Nat.blt n 74 with|true=>{ kind:=.slice,sz:=1,zero:=[.slice none 0 0],elem:=some 75 }|false=>{ kind:=.struct,agg:=true,sz:=3,zero:=[.string ⟨#[]⟩,.int .i64 0,.bool false],flds:=[(0,1),(1,1),(2,1)],fty:=[9,3,4] }))))|false=>(match Nat.blt n 86 with|true=>(match Nat.blt n 80 with|true=>(match Nat.blt n 78 with|true=>(match Nat.blt n 77 with|true=>{ kind:=.slice,sz:=1,zero:=[.slice none 0 0],elem:=some 88 }|false=>{ kind:=.other })|false=>(match Nat.blt n 79 with|true=>{ sz:=1,zero:=[.nilFunc] }|false=>{ kind:=.ptr,sz:=1,zero:=[.pointer none],val:=some 83 }))|false=>(match Nat.blt n 82 with|true=>(match Nat.blt n 81 with|true=>{ kind:=.ptr,sz:=1,zero:=[.pointer none],val:=some 117 }|false=>{ sz:=1,zero:=[.nilFunc] })|false=>(match Nat.blt n 84 with|true=>{ kind:=.struct,agg:=true,sz:=3,zero:=[.pointer none,.int .u8 0,.int .i64 0],flds:=[(0,1),(1,1),(2,1)],fty:=[80,31,3] }|false=>{ kind:=.struct,agg:=true,sz:=11,zero:=[.int .u8 0,.string ⟨#[]⟩,.string ⟨#[]⟩,.int .i64 0,.bool false,.int .u8 0,.string ⟨#[]⟩,.int .i64 0,.slice none 0 0,.slice none 0 0,.slice none 0 0],flds:=[(0,10),(10,1)],fty:=[28,40] })))|false=>(match Nat.blt n 93 with|true=>(match Nat.blt n 89 with|true=>(match Nat.blt n 87 with|true=>{ sz:=1,zero:=[.nilFunc] }|false=>{ kind:=.struct,agg:=true,sz:=4,zero:=[.int .u8 0,.string ⟨#[]⟩,.int .i64 0,.int .i64 0],flds:=[(0,1),(1,1),(2,1),(3,1)],fty:=[5,9,2,3] })|false=>(match Nat.blt n 92 with|true=>{ sz:=1,zero:=[.nilFunc] }|false=>{ kind:=.slice,sz:=1,zero:=[.slice none 0 0],elem:=some 95 }))|false=>(match Nat.blt n 96 with|true=>(match Nat.blt n 94 with|true=>{ sz:=1,zero:=[.nilFunc] }|false=>{ kind:=.struct,agg:=true,sz:=5,zero:=[.string ⟨#[]⟩,.int .u8 0,.string ⟨#[]⟩,.int .i64 0,.slice none 0 0],flds:=[(0,1),(1,4)],fty:=[9,25] })|false=>(match Nat.blt n 97 with|true=>{ sz:=1,zero:=[.nilFunc] }|false=>{ kind:=.ptr,sz:=1,zero:=[.pointer none],val:=some 3 }))))))|false=>(match Nat.blt n 158 with|true=>(match Nat.blt n 129 with|true=>(match Nat.blt n 113 with|true=>(match Nat.blt n 104 with|true=>(match Nat.blt n 101 with|true=>(match Nat.blt n 99 with|true=>{ kind:=.map,sz:=1,zero:=[.map none],key:=some 9,val:=some 138 }|false=>{ kind:=.struct,agg:=true,sz:=2,zero:=[.map none,.slice none 0 0],flds:=[(0,1),(1,1)],fty:=[98,38] })|false=>(match Nat.blt n 102 with|true=>{ sz:=1,zero:=[.nilFunc] }|false=>{ kind:=.struct,agg:=true,sz:=2,zero:=[.int .i64 0,.nilFunc],flds:=[(0,1),(1,1)],fty:=[3,64] }))|false=>(match Nat.blt n 106 with|true=>(match Nat.blt n 105 with|true=>{ sz:=1,zero:=[.nilFunc] }|false=>{ kind:=.other })|false=>(match Nat.blt n 111 with|true=>{ sz:=1,zero:=[.nilFunc] }|false=>{ kind:=.struct,agg:=true,sz:=2,zero:=[.slice none 0 0,.int .i64 0],flds:=[(0,1),(1,1)],fty:=[54,3] })))|false=>(match Nat.blt n 124 with|true=>(match Nat.blt n 116 with|true=>(match Nat.blt n 114 with|true=>{ kind:=.other }|false=>{ sz:=1,zero:=[.nilFunc] })|false=>(match Nat.blt n 118 with|true=>{ kind:=.struct,agg:=true,sz:=2,zero:=[.slice none 0 0,.int .i64 0],flds:=[(0,1),(1,1)],fty:=[76,3] }|false=>{ sz:=1,zero:=[.nilFunc] }))|false=>(match Nat.blt n 126 with|true=>(match Nat.blt n 125 with|true=>{ kind:=.array,agg:=true,sz:=2,zero:=[.string ⟨#[]⟩,.string ⟨#[]⟩],val:=some 9,alen:=2 }|false=>{ sz:=1,zero:=[.nilFunc] })|false=>(match Nat.blt n 128 with|true=>{ kind:=.struct,agg:=true,sz:=4,zero:=[.bool false,.bool false,.int .i64 0,.int .i64 0],flds:=[(0,1),(1,1),(2,1),(3,1)],fty:=[4,4,3,3] }|false=>{ kind:=.other }))))|false=>(match Nat.blt n 144 with|true=>(match Nat.blt n 138 with|true=>(match Nat.blt n 134 with|true=>(match Nat.blt n 133 with|true=>{ sz:=1,zero:=[.nilFunc] }|false=>{ kind:=.ptr,sz:=1,zero:=[.pointer none],val:=some 100 })|false=>(match Nat.blt n 136 with|true=>{ sz:=1,zero:=[.nilFunc] }|false=>{ kind:=.struct,agg:=true,sz:=2,zero:=[.int .i64 0,.bool false],flds:=[(0,1),(1,1)],fty:=[3,4] }))|false=>(match Nat.blt n 140 with|true=>(match Nat.blt n 139 with|true=>{ kind:=.slice,sz:=1,zero:=[.slice none 0 0],elem:=some 137 }|false=>{ kind:=.ptr,sz:=1,zero:=[.pointer none],val:=some 103 })|false=>(match Nat.blt n 143 with|true=>{ sz:=1,zero:=[.nilFunc] }|false=>{ kind:=.ptr,sz:=1,zero:=[.pointer none],val:=some 112 })))|false=>(match Nat.blt n 149 with|true=>(match Nat.blt n 147 with|true=>(match Nat.blt n 146 with|true=>{ sz:=1,zero:=[.nilFunc] }|false=>{ kind:=.other })|false=>(match Nat.blt n 148 with|true=>{ sz:=1,zero:=[.nilFunc] }|false=>{ kind:=.slice,sz:=1,zero:=[.slice none 0 0],elem:=some 154 }))|false=>(match Nat.blt n 155 with|true=>(match Nat.blt n 153 with|true=>{ sz:=1,zero:=[.nilFunc] }|false=>{ kind:=.struct,agg:=true,sz:=7,zero:=[.string ⟨#[]⟩,.bool false,.int .u8 0,.string ⟨#[]⟩,.int .i64 0,.slice none 0 0,.int .i64 0],flds:=[(0,1),(1,1),(2,4),(6,1)],fty:=[9,4,25,3] })|false=>(match Nat.blt n 156 with|true=>{ kind:=.slice,sz:=1,zero:=[.slice none 0 0],elem:=some 85 }|false=>{ sz:=1,zero:=[.nilFunc] })))))|false=>(match Nat.blt n 186 with|true=>(match Nat.blt n 167 with|true=>(match Nat.blt n 162 with|true=>(match Nat.blt n 160 with|true=>(match Nat.blt n 159 with|true=>{ kind:=.other }|false=>{ sz:=1,zero:=[.nilFunc] })|false=>(match Nat.blt n 161 with|true=>{ kind:=.slice,sz:=1,zero:=[.slice none 0 0],elem:=some 163 }|false=>{ kind:=.other }))|false=>(match Nat.blt n 164 with|true=>(match Nat.blt n 163 with|true=>{ sz:=1,zero:=[.nilFunc] }|false=>{ kind:=.struct,agg:=true,sz:=5,zero:=[.string ⟨#[]⟩,.int .u8 0,.string ⟨#[]⟩,.int .i64 0,.slice none 0 0],flds:=[(0,1),(1,4)],fty:=[9,25] })|false=>(match Nat.blt n 166 with|true=>{ sz:=1,zero:=[.nilFunc] }|false=>{ kind:=.other })))|false=>(match Nat.blt n 174 with|true=>(match Nat.blt n 169 with|true=>(match Nat.blt n 168 with|true=>{ sz:=1,zero:=[.nilFunc] }|false=>{ kind:=.other })|false=>(match Nat.blt n 172 with|true=>{ sz:=1,zero:=[.nilFunc] }|false=>{ kind:=.map,sz:=1,zero:=[.map none],key:=some 3,val:=some 4 }))|false=>(match Nat.blt n 178 with|true=>(match Nat.blt n 176 with|true=>{ sz:=1,zero:=[.nilFunc] }|false=>{ kind:=.int .u64,sz:=1,zero:=[.int .u64 0] })|false=>(match Nat.blt n 185 with|true=>{ sz:=1,zero:=[.nilFunc] }|false=>{ kind:=.other }))))|false=>(match Nat.blt n 215 with|true=>(match Nat.blt n 206 with|true=>(match Nat.blt n 188 with|true=>(match Nat.blt n 187 with|true=>{ sz:=1,zero:=[.nilFunc] }|false=>{ kind:=.ptr,sz:=1,zero:=[.pointer none],val:=some 189 })|false=>(match Nat.blt n 190 with|true=>{ kind:=.struct,agg:=true,sz:=3,zero:=[.pointer none,.int .u8 0,.int .i64 0],flds:=[(0,1),(1,1),(2,1)],fty:=[80,31,3] }|false=>{ sz:=1,zero:=[.nilFunc] }))|false=>(match Nat.blt n 209 with|true=>(match Nat.blt n 208 with|true=>{ kind:=.struct,agg:=true,sz:=13,zero:=[.string ⟨#[]⟩,.int .i64 0,.int .u8 0,.string ⟨#[]⟩,.string ⟨#[]⟩,.int .i64 0,.bool false,.int .u8 0,.string ⟨#[]⟩,.int .i64 0,.slice none 0 0,.slice none 0 0,.slice none 0 0],flds:=[(0,1),(1,1),(2,11)],fty:=[9,3,85] }|false=>{ kind:=.slice,sz:=1,zero:=[.slice none 0 0],elem:=some 207 })|false=>(match Nat.blt n 213 with|true=>{ sz:=1,zero:=[.nilFunc] }|false=>{ kind:=.struct,agg:=true,sz:=4,zero:=[.pointer none,.pointer none,.pointer none,.string ⟨#[]⟩],flds:=[(0,1),(1,1),(2,1),(3,1)],fty:=[17,17,17,9] })))|false=>(match Nat.blt n 221 with|true=>(match Nat.blt n 218 with|true=>(match Nat.blt n 216 with|true=>{ kind:=.array,agg:=true,sz:=0,zero:=[],val:=some 16,alen:=0 }|false=>{ kind:=.struct,agg:=true,sz:=0,zero:=[],flds:=[(0,0)],fty:=[215] })|false=>(match Nat.blt n 219 with|true=>{ kind:=.int .u32,sz:=1,zero:=[.int .u32 0] }|false=>{ kind:=.int .u8,sz:=1,zero:=[.int .u8 0] }))|false=>(match Nat.blt n 223 with|true=>(match Nat.blt n 222 with|true=>{ sz:=1,zero:=[.nilFunc] }|false=>{ kind:=.ptr,sz:=1,zero:=[.pointer none],val:=some 5 })|false=>(match Nat.blt n 225 with|true=>{ kind:=.int .i32,sz:=1,zero:=[.int .i32 0] }|false=>(match Nat.blt n 227 with|true=>{ kind:=.struct,agg:=true,sz:=11,zero:=[.int .u64 0,.int .u64 0,.int .u32 0,.int .u8 0,.int .u8 0,.int .u8 0,.int .u8 0,.nilFunc,.pointer none,.int .i32 0,.int .i32 0],flds:=[(0,1),(1,1),(2,1),(3,1),(4,1),(5,1),(6,1),(7,1),(8,1),(9,1),(10,1)],fty:=[12,12,218,219,5,5,220,221,222,223,224] }|false=>{ sz:=1,zero:=[.pointer none] })))))))
def c3r:List Nat:=[46,47,75,88,127,137]
def b3l (P:Program) (t:Nat):Bool:=(!P.stoodInHeld t && !P.eqGuardType P.depth t) && (match P.underlying t with|some (.struct fs)=>fs.toList.all (fun f=>f.name != "_")|_=>false)
theorem b4w:∀t∈c3r,b3l Try.prog t=true:=d0f.2 ⟨by kernel_rfl,d0f.2 ⟨by kernel_rfl,d0f.2 ⟨by kernel_rfl,d0f.2 ⟨by kernel_rfl,d0f.2 ⟨by kernel_rfl,d0f.2 ⟨by kernel_rfl,(fun _ h=>by cases h)⟩⟩⟩⟩⟩⟩
def b7H:List Nat:=[1,2,3,4,5,6,7,8,9,10,11,12,13,14,15,16,17,18,19,20,21,22,23,24,25,26,27,28,29,30,31,33,35,36,37,38,39,40,41,42,43,44,45,46,47,48,49,50,51,53,54,55,56,57,59,61,62,63,64,65,66,67,68,69,70,71,72,73,74,75,76,78,79,80,81,82,83,84,85,86,87,88,89,90,91,92,93,94,95,96,97,98,99,100,101,102,103,104,106,107,108,109,110,111,112,114,115,116,117,118,119,120,121,122,123,124,125,126,127,129,130,131,132,133,134,135,136,137,138,139,140,141,142,143,144,145,147,148,149,150,151,152,153,154,155,156,157,159,160,162,163,164,165,167,169,170,171,172,173,174,175,176,177,178,179,180,181,182,183,184,186,187,188,189,190,191,192,193,194,195,196,197,198,199,200,201,202,203,204,205,206,207,208,209,210,211,212,213,214,215,216,217,218,219,220,221,222,223,224,225,226,227]
def f9 (t:Nat):Bool:=b7H.contains t
def c3W:List (String×IntKind×List Int):=[]
def tyL (P:Program) (t:Nat) (i:TI):Option TypeDesc×Option (List (Nat×Option Nat)×List Nat)×Bool:=match i.kind with
 | .slice=>(P.underlying t,none,i.elem.isSome)
 | .ptr|.array=>(P.underlying t,none,i.val.isSome)
 | .map=>(P.underlying t,none,i.key.isSome && i.val.isSome)
 | .struct=>(none,b3k P (P.underlying t),true)
 | .other=>(none,none,true)
 | _=>(P.underlying t,none,true)
def tyR (i:TI):Option TypeDesc×Option (List (Nat×Option Nat)×List Nat)×Bool:=match i.kind with
 | .int k=>(some (.int k),none,true)
 | .bool=>(some .bool,none,true)
 | .str=>(some .string,none,true)
 | .slice=>(i.elem.map .slice,none,true)
 | .ptr=>(i.val.map .pointer,none,true)
 | .array=>(i.val.map (.array i.alen),none,true)
 | .map=>(i.key.bind fun k=>i.val.map fun e=>.map k e,none,true)
 | .struct=>(none,some (i.flds.map (fun x=>(x.1,some x.2)),i.fty),true)
 | .other=>(none,none,true)
def b7I (P:Program) (t:Nat) (i:TI):=((P.info? t).map (fun x=>(x.size,x.zero.map Value.cells)),i.zero.length,((P.info? t).bind (·.zero)).map b7G,(P.info? t).map (fun x=>decide (x.bytes≤1024)),b19 (P.underlying t),tyL P t i,(match i.kind with|.slice=>true|_=>i.elem.isNone),(match i.kind with|.struct=>true|_=>i.flds.isEmpty))
def b7J (i:TI):Option (Nat×Option (Array Value))×Nat×Option Bool×Option Bool×Option Bool×(Option TypeDesc×Option (List (Nat×Option Nat)×List Nat)×Bool)×Bool×Bool:=(some (i.sz,some i.zero.toArray),i.sz,some i.agg,some true,some i.agg,tyR i,true,true)
theorem TyOk.of {P:Program} {t:Nat} {i:TI} (h:b7I P t i=b7J i):TyOk P t i:=by
 unfold b7I b7J at h
 simp only [Prod.mk.injEq] at h
 obtain ⟨h1,h2,h3,h4,h5,h6,h7,h8⟩:=h
 refine ⟨h1,h2,h3,h4,h5,?_,h7,h8⟩
 unfold tyL tyR at h6
 unfold a1i
 cases hk:i.kind <;> simp only [hk,Prod.mk.injEq,c8Z,and_true,true_and] at h6 ⊢ <;> first|exact h6|trivial
theorem c5M:b7H.map (fun t=>b7I Try.prog t (ty t))=b7H.map (fun t=>b7J (ty t)):=by kernel_rfl
theorem b4x {α β:Type} {f g:α→β}:∀ {l:List α},l.map f=l.map g→∀x∈l,f x=g x
 | a::l,h,x,hx=>by
  rw [c9m,c9m] at h
  injection h with h1 h2
  cases hx with
  | head=>exact h1
  | tail _ hx=>exact b4x h2 x hx
theorem a3M (t:Nat) (h:f9 t=true):TyOk Try.prog t (ty t):=TyOk.of (b4x c5M t (by unfold f9 at h;simpa using h))
inductive D where
 | sc (v:Value)
 | sl (sz:Nat) (rows:List (List D))
inductive R where
 | one (x:D)
 | ag (xs:List D)
inductive V where
 | d (x:D)
 | ag (cs:List V)
 | tu (vs:List V)
 | em
 | own (k:Nat)
 | ptr (k off:Nat)
 | cl (f:Nat) (ks:List Nat)
 | el (k:Nat) (i:Int) (sz off:Nat)
 | ro (cs:List D) (off:Nat)
 | mp (k:Nat)
 | bs (k n:Nat)
 | jk
inductive O where
 | box (cs:List V)
 | row (z:Bool) (e:Nat) (rows:List (List D))
 | mp (kt:Nat) (es:List (R×R))
 | kl (ks:List Nat)
 | it (P:World→Value→List Nat→Prop)
 | ob (T:Nat) (vs:List Value)
 | dead
structure S where
 t:List V
 o:List O
inductive X where
 | normal
 | exit (id:Nat)
 | ret
def b3m (N:S→Prop) (K:X→S→Prop):X→S→Prop
 | .normal,s=>N s
 | .exit i,s=>K (.exit i) s
 | .ret,s=>K .ret s
structure Ar where
 wrap:IntKind→Int→Int
 add:Int→Int→Int
 sub:Int→Int→Int
 mul:Int→Int→Int
 quo:Int→Int→Int
 rem:Int→Int→Int
 bits:BinOp→IntKind→Int→IntKind→Int→Option Int
 lt:Int→Int→Bool
 le:Int→Int→Bool
 eq:Int→Int→Bool
 nz:Int→Prop→Prop
 seq:List UInt8→List UInt8→Bool
 slt:List UInt8→List UInt8→Bool
 bytes:ByteArray→List UInt8
 cat:ByteArray→ByteArray→ByteArray
 fits:ByteArray→ByteArray→Prop→Prop
 slen:ByteArray→Int
 sget:ByteArray→Int→Option Int
 ssub:ByteArray→Int→Int→Option ByteArray
 txt:List (List D)→Option ByteArray
 byt:ByteArray→List (List D)
 nat:Int→Nat→Option Nat
 len:List (List D)→Int
 get:List (List D)→Int→Option (List D)
 sub2:List (List D)→Int→Int→Option (List (List D))
 app:List (List D)→List (List D)→List (List D)
 set:List (List D)→Int→List D→List (List D)
 room:List (List D)→List (List D)→Prop→Prop
 mlook:List (R×R)→R→Option R
 mput:List (R×R)→R→R→List (R×R)
 deq:List D→List D→Bool
 rep:Int→List D→(List (List D)→Prop)→Prop
 call:Nat→List R→(List R→Prop)→Prop
 calld:Nat→List V→List O→(V→Prop)→Prop
 callo:Nat→List V→S→(V→S→Prop)→Prop
 callx:Nat→List V→List Nat→S→(V→S→Prop)→Prop
 new:Nat→(Bool→Prop)→Prop
 lit:Nat→(Bool→Prop)→Prop
 keep:Nat→(List V→List O→Prop)→List V→S→Prop
 next:(S→Prop)→S→Prop
 ext:Op→Option Nat→S→(S→Prop)→Prop
 reg:Array Oper→S→(S→Prop)→Prop
 loop:Code→(S→(X→S→Prop)→Prop)→S→(X→S→Prop)→Prop
def n6:List V→Nat→V
 | [],_=>.jk
 | x::_,0=>x
 | _::l,n+1=>n6 l n
def E6:List V→Nat→V→List V
 | [],_,_=>[]
 | _::l,0,v=>v::l
 | x::l,n+1,v=>x::E6 l n v
def y6:List O→Nat→O
 | [],_=>.dead
 | x::_,0=>x
 | _::l,n+1=>y6 l n
def G8:List O→Nat→O→List O
 | [],_,_=>[]
 | _::l,0,v=>v::l
 | x::l,n+1,v=>x::G8 l n v
def r9:List O→O→List O
 | [],v=>[v]
 | x::l,v=>x::r9 l v
def m7:List O→Nat
 | []=>0
 | _::l=>m7 l+1
def L9 {α:Type}:Nat→List α→List α
 | 0,l=>l
 | _+1,[]=>[]
 | n+1,_::l=>L9 n l
def J4 {α:Type}:Nat→List α→Option (List α)
 | 0,_=>some []
 | _+1,[]=>none
 | n+1,x::l=>match J4 n l with|some t=>some (x::t)|none=>none
def C4 {α:Type}:List α→Nat
 | []=>0
 | _::l=>C4 l+1
def L7:Nat→Nat→Bool
 | 0,0=>true
 | n+1,m+1=>L7 n m
 | _,_=>false
def splice {α:Type}:List α→Nat→List α→Option (List α)
 | l,0,[]=>some l
 | _::l,0,y::ys=>match splice l 0 ys with|some t=>some (y::t)|none=>none
 | x::l,n+1,ys=>match splice l n ys with|some t=>some (x::t)|none=>none
 | [],_+1,_=>none
 | [],0,_::_=>none
def b5Y:V→Bool
 | .d _=>true
 | .em=>true
 | .own _=>true
 | .ptr _ _=>true
 | .cl _ _=>true
 | .el _ _ _ _=>true
 | .ro _ _=>true
 | .mp _=>true
 | .bs _ _=>true
 | _=>false
def a3N:List V→Bool
 | []=>true
 | x::l=>match b5Y x with|true=>a3N l|false=>false
def a1j:V→Option (List V)
 | .ag l=>match a3N l with|true=>some l|false=>none
 | .jk=>none
 | .tu _=>none
 | x=>some [x]
def y5:List D→List V
 | []=>[]
 | x::l=>.d x::y5 l
def b7K:R→V
 | .one x=>.d x
 | .ag xs=>.ag (y5 xs)
def b1A:List R→List V
 | []=>[]
 | x::l=>b7K x::b1A l
def b5Z:List R→V
 | [r]=>b7K r
 | rs=>.tu (b1A rs)
def toD (os:List O):V→Option D
 | .d x=>some x
 | .cl f []=>some (.sc (.func (.func f) #[] #[]))
 | .em=>some (.sl 0 [])
 | .own k=>match y6 os k with|.row true e rows=>some (.sl (ty e).sz rows)|_=>none
 | _=>none
def a4f (os:List O):List V→Option (List D)
 | []=>some []
 | x::l=>match toD os x with
  | some y=>match a4f os l with|some ys=>some (y::ys)|none=>none
  | none=>none
def toR (os:List O):V→Option R
 | .ag l=>match a4f os l with|some ys=>some (.ag ys)|none=>none
 | x=>match toD os x with|some y=>some (.one y)|none=>none
def a9d (os:List O):List V→Option (List R)
 | []=>some []
 | x::l=>match toR os x with
  | some y=>match a9d os l with|some ys=>some (y::ys)|none=>none
  | none=>none
def a7l (k:Nat):V→V
 | .own j=>match L7 j k with|true=>.jk|false=>.own j
 | .el j i sz off=>match L7 j k with|true=>.jk|false=>.el j i sz off
 | .ag _=>.jk
 | .tu _=>.jk
 | x=>x
def A3 (k:Nat):List V→List V
 | []=>[]
 | x::l=>a7l k x::A3 k l
def E3 (k:Nat):V→V
 | .ag cs=>.ag (A3 k cs)
 | .tu []=>.tu []
 | .tu _=>.jk
 | x=>a7l k x
def H3 (k:Nat):List V→List V
 | []=>[]
 | x::l=>E3 k x::H3 k l
def B7 (k:Nat):List O→List O
 | []=>[]
 | .box cs::l=>.box (A3 k cs)::B7 k l
 | .kl ks::l=>.kl (k::ks)::B7 k l
 | x::l=>x::B7 k l
def a5D:Value→V
 | .slice none 0 0=>.em
 | .agg _=>.jk
 | .tuple _=>.jk
 | v=>.d (.sc v)
def F4:List Value→List V
 | []=>[]
 | x::l=>a5D x::F4 l
def S.get (s:S):Operand→V
 | .tmp i=>n6 s.t i
 | .const v=>a5D v
 | .func f=>.cl f []
 | .global _=>.jk
def S.put (s:S) (d:Option Nat) (v:V):S:=match d with
 | some i=>⟨E6 s.t i v,s.o⟩
 | none=>s
def S.obj (s:S) (o:O):S:=⟨s.t,r9 s.o o⟩
def S.fresh (m:Bool) (s:S) (o:O):S:=match m with
 | true=>s.obj o
 | false=>⟨H3 (m7 s.o) s.t,r9 (B7 (m7 s.o) s.o) o⟩
def vb (b:Bool):V:=.d (.sc (.bool b))
def vi (k:IntKind) (n:Int):V:=.d (.sc (.int k n))
def vs (s:ByteArray):V:=.d (.sc (.string s))
def keq:IntKind→IntKind→Bool
 | .i8,.i8=>true
 | .i16,.i16=>true
 | .i32,.i32=>true
 | .i64,.i64=>true
 | .u8,.u8=>true
 | .u16,.u16=>true
 | .u32,.u32=>true
 | .u64,.u64=>true
 | _,_=>false
def a2l:Bool→Bool
 | true=>false
 | false=>true
def bEq:Bool→Bool→Bool
 | true,true=>true
 | false,false=>true
 | _,_=>false
def orB:Bool→Bool→Bool
 | true,_=>true
 | false,b=>b
def b3n (a:Ar) (k:IntKind) (x y:Int) (K:V→Prop):BinOp→Prop
 | .add=>K (vi k (a.wrap k (a.add x y)))
 | .sub=>K (vi k (a.wrap k (a.sub x y)))
 | .mul=>K (vi k (a.wrap k (a.mul x y)))
 | .quo=>a.nz y (K (vi k (a.wrap k (a.quo x y))))
 | .rem=>a.nz y (K (vi k (a.rem x y)))
 | .eql=>K (vb (a.eq x y))
 | .neq=>K (vb (a2l (a.eq x y)))
 | .lss=>K (vb (a.lt x y))
 | .leq=>K (vb (a.le x y))
 | .gtr=>K (vb (a.lt y x))
 | .geq=>K (vb (a.le y x))
 | _=>False
def b3o (a:Ar) (x y:ByteArray) (K:V→Prop):BinOp→Prop
 | .add=>a.fits x y (K (vs (a.cat x y)))
 | .eql=>K (vb (a.seq (a.bytes x) (a.bytes y)))
 | .neq=>K (vb (a2l (a.seq (a.bytes x) (a.bytes y))))
 | .lss=>K (vb (a.slt (a.bytes x) (a.bytes y)))
 | .gtr=>K (vb (a2l (orB (a.slt (a.bytes x) (a.bytes y)) (a.seq (a.bytes x) (a.bytes y)))))
 | .leq=>K (vb (orB (a.slt (a.bytes x) (a.bytes y)) (a.seq (a.bytes x) (a.bytes y))))
 | .geq=>K (vb (a2l (a.slt (a.bytes x) (a.bytes y))))
 | _=>False
def c5N:BinOp→Bool
 | .and=>true
 | .or=>true
 | .xor=>true
 | .andNot=>true
 | .shl=>true
 | .shr=>true
 | _=>false
def c5O (k:IntKind) (K:V→Prop):Option Int→Prop
 | some n=>K (vi k n)
 | none=>False
def M1 (op:BinOp) (k:IntKind) (x:Int) (k':IntKind) (y:Int):Option Int:=match op with
 | .shl=>match y with|.ofNat n=>some (k.wrap (x * 2 ^ (min n k.bits)))|.negSucc _=>none
 | .shr=>match y with|.ofNat n=>some (x.fdiv (2 ^ (min n k.bits)))|.negSucc _=>none
 | .and=>match keq k k' with|true=>some (k.wrap (BitVec.ofInt k.bits x &&& BitVec.ofInt k.bits y).toNat)|false=>none
 | .or=>match keq k k' with|true=>some (k.wrap (BitVec.ofInt k.bits x ||| BitVec.ofInt k.bits y).toNat)|false=>none
 | .xor=>match keq k k' with|true=>some (k.wrap (BitVec.ofInt k.bits x ^^^ BitVec.ofInt k.bits y).toNat)|false=>none
 | .andNot=>match keq k k' with|true=>some (k.wrap (BitVec.ofInt k.bits x &&& ~~~BitVec.ofInt k.bits y).toNat)|false=>none
 | _=>none
def a7m (a:Ar) (op:BinOp):Value→Value→(V→Prop)→Prop
 | .int k x,.int k' y,K=>match c5N op with
  | true=>c5O k K (a.bits op k x k' y)
  | false=>match keq k k' with|true=>b3n a k x y K op|false=>False
 | .string x,.string y,K=>b3o a x y K op
 | _,_,_=>False
def a2K (b:Bool) (K:V→Prop):BinOp→Prop
 | .eql=>K (vb b)
 | .neq=>K (vb (a2l b))
 | _=>False
def b0w:V→Bool
 | .d (.sc (.pointer none))=>true
 | _=>false
def a0z:TK→Bool
 | .slice=>true
 | _=>false
def a0p:TK→D→Bool
 | .int k,.sc (.int k' _)=>keq k k'
 | .str,.sc (.string _)=>true
 | .bool,.sc (.bool _)=>true
 | _,_=>false
def P3:List Nat→List (Nat×Nat)→Nat→List D→Bool
 | [],[],_,[]=>true
 | u::us,(off,1)::fs,n,d::ds=>match L7 off n with
  | true=>match a0p (ty u).kind d with|true=>P3 us fs (n+1) ds|false=>false
  | false=>false
 | _,_,_,_=>false
def b4y:Nat→Nat→Bool:=Nat.beq
def b7L:Int→Int→Bool
 | .ofNat m,.ofNat n=>b4y m n
 | .negSucc m,.negSucc n=>b4y m n
 | _,_=>false
def a6N:List UInt8→List UInt8→Bool
 | [],[]=>true
 | x::l,y::m=>match b4y x.toNat y.toNat with|true=>a6N l m|false=>false
 | _,_=>false
def dEq:D→D→Bool
 | .sc (.int _ m),.sc (.int _ n)=>b7L m n
 | .sc (.string x),.sc (.string y)=>a6N x.data.toList y.data.toList
 | .sc (.bool x),.sc (.bool y)=>bEq x y
 | _,_=>false
def b3q:List D→List D→Bool
 | [],[]=>true
 | x::l,y::m=>match dEq x y with|true=>b3q l m|false=>false
 | _,_=>false
def b4z (t:Nat):List Nat→Bool
 | []=>false
 | u::l=>match L7 u t with|true=>true|false=>b4z t l
def a2F (t:Nat):R→Bool
 | .one d=>a0p (ty t).kind d
 | .ag ds=>match (ty t).kind with|.struct=>(match b4z t c3r with|true=>P3 (ty t).fty (ty t).flds 0 ds|false=>false)|_=>false
def a2m:List V→Option (List D)
 | []=>some []
 | .d x::l=>match a2m l with|some ys=>some (x::ys)|none=>none
 | _=>none
def b7M (a:Ar) (op:BinOp) (t:Nat):V→V→(V→Prop)→Prop
 | .d (.sc x),.d (.sc y),K=>match (ty t).kind with
  | .ptr=>match x,y with
   | .pointer none,.pointer none=>a2K true K op
   | _,_=>False
  | .bool=>match x,y with
   | .bool b,.bool c=>a2K (bEq b c) K op
   | _,_=>False
  | _=>a7m a op x y K
 | .ptr _ _,y,K=>match (ty t).kind with
  | .ptr=>match b0w y with|true=>a2K false K op|false=>False
  | _=>False
 | x,.ptr _ _,K=>match (ty t).kind with
  | .ptr=>match b0w x with|true=>a2K false K op|false=>False
  | _=>False
 | .d (.sl _ rows),.em,K=>match a0z (ty t).kind with|true=>a.nz (a.len rows) (a2K false K op)|false=>False
 | .em,.em,K=>match a0z (ty t).kind with|true=>a2K true K op|false=>False
 | .ag xs,.ag ys,K=>match a2m xs,a2m ys with
  | some ds,some es=>match a2F t (.ag ds) with
   | true=>match a2F t (.ag es) with|true=>a2K (a.deq ds es) K op|false=>False
   | false=>False
  | _,_=>False
 | _,_,_=>False
def unV (a:Ar):UnOp→V→(V→Prop)→Prop
 | .not,.d (.sc (.bool b)),K=>K (vb (a2l b))
 | .neg,.d (.sc (.int k n)),K=>K (vi k (a.wrap k (a.sub 0 n)))
 | _,_,_=>False
def c3s:Value→Option UInt8
 | .int k n=>match keq k .u8 with|true=>some (UInt8.ofNat n.toNat)|false=>none
 | _=>none
def b1B:List D→Option UInt8
 | [.sc v]=>c3s v
 | _=>none
def a2L:List (List D)→Option (List UInt8)
 | []=>some []
 | r::l=>match b1B r with
  | some c=>match a2L l with|some t=>some (c::t)|none=>none
  | none=>none
def a3z (rows:List (List D)):Option ByteArray:=match a2L rows with|some l=>some ⟨⟨l⟩⟩|none=>none
def a7n (s:ByteArray):List (List D):=s.data.toList.map fun c=>[.sc (.int .u8 (c.toNat:Int))]
def b7N (a:Ar) (K:V→Prop) (k:IntKind):V→Prop
 | .d (.sc (.int _ n))=>K (vi k (a.wrap k n))
 | _=>False
def c3X (K:V→Prop):Option ByteArray→Prop
 | some s=>K (vs s)
 | none=>False
def b1C:TK→Bool
 | .str=>true
 | _=>false
def b7O (a:Ar) (K:V→Prop) (b:Bool):V→Prop
 | .d (.sc (.string s))=>K (vs s)
 | .d (.sl _ rows)=>match b with|true=>c3X K (a.txt rows)|false=>False
 | .em=>match b with|true=>K (vs ⟨⟨[]⟩⟩)|false=>False
 | _=>False
def b7P (a:Ar) (K:V→Prop) (b:Bool):V→Prop
 | .d (.sc (.string s))=>match b with|true=>K (.d (.sl 1 (a.byt s)))|false=>False
 | _=>False
def b1D (a:Ar) (K:V→Prop) (k0 k:TK) (x:V):Prop:=match k with
 | .int j=>b7N a K j x
 | .str=>b7O a K (a0z k0) x
 | .slice=>b7P a K (b1C k0) x
 | _=>False
def a1P:Bool→List V→Option V
 | true,l=>some (.ag l)
 | false,[x]=>some x
 | false,_=>none
def a0a (g:Operand→V) (place:List (Nat×Nat)):List (Nat×Operand)→List V→Option (List V)
 | [],l=>some l
 | (i,x)::ps,l=>match J4 1 (L9 i place) with
  | some [(off,sz)]=>match a1j (g x) with
   | some cs=>match L7 (C4 cs) sz with
    | true=>match splice l off cs with
     | some l'=>a0a g place ps l'
     | none=>none
    | false=>none
   | none=>none
  | _=>none
def W5 (sz:Nat):Nat→Nat→List (Nat×Nat)
 | 0,_=>[]
 | n+1,off=>(off,sz)::W5 sz n (off+sz)
def a3R (z:List V):Nat→List V→List V
 | 0,acc=>acc
 | n+1,acc=>a3R z n (z++acc)
def a5E (sz:Nat):Nat→List D→Option (List (List D))
 | 0,[]=>some []
 | 0,_::_=>none
 | n+1,l=>match J4 sz l with
  | some r=>match a5E sz n (L9 sz l) with
   | some rs=>some (r::rs)
   | none=>none
  | none=>none
def c3Y (a:Ar) (os:List O) (K:V→Prop):V→Prop
 | .d (.sl _ rows)=>K (vi .i64 (a.len rows))
 | .em=>K (vi .i64 0)
 | .own k=>match y6 os k with|.row _ _ rows=>K (vi .i64 (a.len rows))|_=>False
 | .bs _ n=>K (vi .i64 (.ofNat n))
 | _=>False
def c3Z (a:Ar) (K:V→Prop):V→Prop
 | .d (.sc (.string x))=>K (vi .i64 (a.slen x))
 | _=>False
def b7Q (a:Ar) (os:List O) (K:V→Prop) (k:TK) (x:V):Prop:=match k with
 | .slice=>c3Y a os K x
 | .str=>c3Z a K x
 | _=>False
def K7 (os:List O):V→Option (Option Nat×List (List D))
 | .d (.sl sz rows)=>some (some sz,rows)
 | .em=>some (none,[])
 | .own k=>match y6 os k with|.row true e rows=>some (some (ty e).sz,rows)|_=>none
 | _=>none
def c1g (sz:Nat):Option Nat→Bool
 | none=>true
 | some n=>L7 n sz
def a6F (os:List O):V→Option (Nat×Nat×List (List D))
 | .own k=>match y6 os k with|.row false e rows=>some (k,e,rows)|_=>none
 | _=>none
def W6 (K:V→Prop) (o:Nat):V→Prop
 | .ptr k off=>K (.ptr k (off+o))
 | .el k i sz off=>K (.el k i sz (off+o))
 | .ro cs off=>K (.ro cs (off+o))
 | _=>False
def bsV:V→Option (Nat×Nat)
 | .bs k n=>some (k,n)
 | _=>none
def y8 (a:Ar) (os:List O) (K:V→Prop) (t:Nat) (x i:V):Prop:=match i with
  | .d (.sc (.int _ n))=>match (ty t).kind with
   | .array=>match (ty t).val with
    | some e=>match a.nat n (ty t).alen with
      | some j=>W6 K (j * (ty e).sz) x
      | none=>False
    | none=>False
   | _=>match (ty t).elem with
    | some e=>match bsV x with
     | some (k,m)=>match a.nat n m with|some j=>K (.ptr k (j * (ty e).sz))|none=>False
     | none=>match a6F os x with
       | some (k,e',rows)=>match L7 e' e with
        | true=>match a.get rows n with|some _=>K (.el k n (ty e).sz 0)|none=>False
        | false=>False
       | none=>match K7 os x with
        | some (some sz,rows)=>match L7 sz (ty e).sz with
          | true=>match a.get rows n with|some row=>K (.ro row 0)|none=>False
          | false=>False
        | _=>False
    | none=>False
  | _=>False
def G3 (a:Ar) (os:List O) (K:V→Prop) (t:Nat):V→Prop
 | .ptr k off=>match y6 os k with
  | .box cs=>match J4 (ty t).sz (L9 off cs) with
   | some l=>match a1P (ty t).agg l with|some x=>K x|none=>False
   | none=>False
  | _=>False
 | .ro cs off=>match J4 (ty t).sz (L9 off cs) with
  | some l=>match a1P (ty t).agg (y5 l) with|some x=>K x|none=>False
  | none=>False
 | .el k i sz off=>match y6 os k with
  | .row _ e rows=>match L7 (ty e).sz sz with
   | true=>match a.get rows i with
    | some row=>match J4 (ty t).sz (L9 off row) with
     | some l=>match a1P (ty t).agg (y5 l) with|some x=>K x|none=>False
     | none=>False
    | none=>False
   | false=>False
  | _=>False
 | _=>False
def N7 (K:V→Prop) (t i:Nat) (x:V):Prop:=match J4 1 (L9 i (ty t).flds) with
 | some [(off,_+1)]=>match x with
  | .ptr k o=>K (.ptr k (o+off))
  | .ro cs o=>K (.ro cs (o+off))
  | .el k i sz o=>K (.el k i sz (o+off))
  | _=>False
 | _=>False
def b1E (K:V→Prop) (t i:Nat) (x:V):Prop:=match J4 1 (L9 i (ty t).fty),J4 1 (L9 i (ty t).flds),x with
 | some [u],some [(off,_)],.ag cs=>match J4 (ty u).sz (L9 off cs) with
  | some l=>match a1P (ty u).agg l with|some x=>K x|none=>False
  | none=>False
 | _,_,_=>False
def H0 (g:Operand→V):List Operand→List V
 | []=>[]
 | x::l=>g x::H0 g l
def a9s (a:Ar) (os:List O) (K:V→Prop) (f:Nat) (vs:List V):Prop:=match a9d os vs with
 | some rs=>a.call f rs (fun q=>K (b5Z q))
 | none=>a.calld f vs os K
def Q9 (g:Operand→V):Option Operand→Option V
 | none=>none
 | some x=>some (g x)
def a4F (n:Int):Option V→Option Int
 | none=>some n
 | some (.d (.sc (.int _ n)))=>some n
 | _=>none
def a7o (a:Ar) (os:List O) (K:V→Prop) (t:Nat) (x:V) (lo hi:Option V):Prop:=match a4F 0 lo with
 | some l=>match (ty t).kind with
  | .str=>match x with
   | .d (.sc (.string b))=>match a4F (a.slen b) hi with
    | some h=>match a.ssub b l h with|some c=>K (vs c)|none=>False
    | none=>False
   | _=>False
  | .slice=>match (ty t).elem with
   | some e=>match K7 os x with
    | some (sz,rows)=>match c1g (ty e).sz sz with
     | true=>match a4F (a.len rows) hi with
      | some h=>match a.sub2 rows l h with|some rs=>K (.d (.sl (ty e).sz rs))|none=>False
      | none=>False
     | false=>False
    | none=>False
   | none=>False
  | _=>False
 | none=>False
def a7p (a:Ar) (K:V→Prop) (t:Nat):V→V→Prop
 | .ag cs,.d (.sc (.int _ n))=>match (ty t).kind with
  | .array=>match (ty t).val with
   | some e=>match a.nat n (ty t).alen with
    | some j=>match J4 (ty e).sz (L9 (j * (ty e).sz) cs) with
     | some l=>match a1P (ty e).agg l with|some x=>K x|none=>False
     | none=>False
    | none=>False
   | none=>False
  | _=>False
 | .d (.sc (.string b)),.d (.sc (.int _ n))=>match (ty t).kind with
  | .str=>match a.sget b n with|some c=>K (vi .u8 c)|none=>False
  | _=>False
 | _,_=>False
def a2n (g:Operand→V) (K:V→Prop) (t:Nat) (ps:List (Nat×Operand)):Prop:=match (ty t).kind with
 | .struct=>match a0a g (ty t).flds ps (F4 (ty t).zero) with
  | some l=>K (.ag l)
  | none=>False
 | .array=>match (ty t).val with
  | some e=>match a0a g (W5 (ty e).sz (ty t).alen 0) ps (F4 (ty t).zero) with
   | some l=>K (.ag l)
   | none=>False
  | none=>False
 | _=>False
def E4 (g:Operand→V) (os:List O) (K:V→Prop) (t n:Nat) (ps:List (Nat×Operand)):Prop:=match (ty t).elem with
 | some e=>match n with
  | 0=>False
  | n+1=>match a0a g (W5 (ty e).sz (n+1) 0) ps (a3R (F4 (ty e).zero) (n+1) []) with
   | some l=>match a4f os l with
    | some ds=>match a5E (ty e).sz (n+1) ds with
     | some rows=>K (.d (.sl (ty e).sz rows))
     | none=>False
    | none=>False
   | none=>False
 | none=>False
def a2M (K:V→Prop) (i:Nat):V→Prop
 | .tu vs=>match J4 1 (L9 i vs) with|some [v]=>K v|_=>False
 | _=>False
def b1F (K:V→Prop) (x y:V):V→Prop
 | .d (.sc (.bool b))=>K (match b with|true=>x|false=>y)
 | _=>False
def b1G:List V→Option (List Nat)
 | []=>some []
 | .ptr k 0::l=>match b1G l with|some ks=>some (k::ks)|none=>none
 | _=>none
def rEq:R→R→Bool
 | .one x,.one y=>dEq x y
 | .ag xs,.ag ys=>b3q xs ys
 | _,_=>false
def a3O:List (R×R)→R→Option R
 | [],_=>none
 | (k,v)::l,r=>match rEq k r with|true=>some v|false=>a3O l r
def a2N:List (R×R)→R→R→List (R×R)
 | [],r,q=>[(r,q)]
 | (k,v)::l,r,q=>match rEq k r with|true=>(k,q)::l|false=>(k,v)::a2N l r q
def c1h (os:List O) (t:Nat) (x:V):Option R:=match toR os x with
 | some r=>match a2F t r with|true=>some r|false=>none
 | none=>none
def b0x (K:V→Prop) (ok b:Bool) (x:V):Prop:=match ok with|true=>K (.tu [x,vb b])|false=>K x
def b1H (K:V→Prop) (ok:Bool) (e:Nat):Prop:=match a1P (ty e).agg (F4 (ty e).zero) with
 | some z=>b0x K ok false z
 | none=>False
def b1I (a:Ar) (os:List O) (K:V→Prop) (t:Nat) (ok:Bool) (x i:V):Prop:=match (ty t).kind with
 | .map=>match (ty t).key,(ty t).val with
  | some kt,some e=>match c1h os kt i with
   | some r=>match x with
    | .mp k=>match y6 os k with
     | .mp kt' es=>match L7 kt' kt with
      | true=>match a.mlook es r with
       | some q=>b0x K ok true (b7K q)
       | none=>b1H K ok e
      | false=>False
     | _=>False
    | .d (.sc (.map none))=>b1H K ok e
    | _=>False
   | none=>False
  | _,_=>False
 | _=>False
def b6a (a:Ar) (K:V→Prop) (mx:Bool):List V→Prop
 | [.d (.sc (.int k x)),.d (.sc (.int k' y))]=>match keq k k' with
  | true=>match mx with
   | true=>K (vi k (match a.lt x y with|true=>y|false=>x))
   | false=>K (vi k (match a.lt y x with|true=>y|false=>x))
  | false=>False
 | _=>False
def nnV (K:V→Prop):V→Prop
 | .ptr k off=>K (.ptr k off)
 | .cl f ks=>K (.cl f ks)
 | .el k i sz off=>K (.el k i sz off)
 | .ro cs off=>K (.ro cs off)
 | _=>False
def fnV:V→Option (Nat×List Nat)
 | .cl f ks=>some (f,ks)
 | .d (.sc (.func (.func f) ⟨[]⟩ ⟨[]⟩))=>some (f,[])
 | _=>none
def a7q:List Nat→List V
 | []=>[]
 | k::l=>.ptr k 0::a7q l
def a2G:List V→List V→List V
 | [],m=>m
 | x::l,m=>x::a2G l m
def b0y (a:Ar) (os:List O) (K:V→Prop) (x:V) (vs:List V):Prop:=match fnV x with
 | some (f,ks)=>a9s a os K f (a2G vs (a7q ks))
 | none=>False
def E9 (a:Ar) (g:Operand→V) (os:List O) (K:V→Prop):Op→Prop
 | .move x=>K (g x)
 | .assign x=>K (g x)
 | .pick c x y=>b1F K (g x) (g y) (g c)
 | .load t x=>G3 a os K t (g x)
 | .fieldAddr t x i=>N7 K t i (g x)
 | .field t x i=>b1E K t i (g x)
 | .indexAddr t x i=>y8 a os K t (g x) (g i)
 | .index t x i=>a7p a K t (g x) (g i)
 | .binOp op t x y _=>b7M a op t (g x) (g y) K
 | .unOp op _ x=>unV a op (g x) K
 | .convert t0 t x=>b1D a K (ty t0).kind (ty t).kind (g x)
 | .build t ps=>a2n g K t ps.toList
 | .buildSlice t n ps=>E4 g os K t n ps.toList
 | .extract x i=>a2M K i (g x)
 | .slice t x lo hi none=>a7o a os K t (g x) (Q9 g lo) (Q9 g hi)
 | .call ⟨.builtin .len,⟨[x]⟩,⟨[t]⟩⟩=>b7Q a os K (ty t).kind (g x)
 | .call ⟨.value (.func f),args,_⟩=>a9s a os K f (H0 g args.toList)
 | .lookup t x i ok=>b1I a os K t ok (g x) (g i)
 | .call ⟨.builtin .min,args,_⟩=>b6a a K false (H0 g args.toList)
 | .call ⟨.builtin .max,args,_⟩=>b6a a K true (H0 g args.toList)
 | .nilCheck x=>nnV K (g x)
 | .makeFunc (.func f) ⟨[]⟩ cs=>match b1G (H0 g cs.toList) with|some ks=>K (.cl f ks)|none=>False
 | .call ⟨.value (.tmp i),args,_⟩=>b0y a os K (g (.tmp i)) (H0 g args.toList)
 | _=>False
def J5 (a:Ar) (s:S) (K:S→Prop) (t:Nat) (y:V):V→Prop
 | .ptr k off=>match y6 s.o k with
  | .box cs=>match a1j y with
   | some l=>match L7 (C4 l) (ty t).sz with
    | true=>match splice cs off l with
     | some cs'=>K ⟨s.t,G8 s.o k (.box cs')⟩
     | none=>False
    | false=>False
   | none=>False
  | _=>False
 | .el k i sz off=>match y6 s.o k with
  | .row false e rows=>match L7 (ty e).sz sz with
   | true=>match a.get rows i with
    | some row=>match a1j y with
     | some l=>match a4f s.o l with
      | some ds=>match L7 (C4 ds) (ty t).sz with
       | true=>match splice row off ds with
        | some row'=>K ⟨s.t,G8 s.o k (.row false e (a.set rows i row'))⟩
        | none=>False
       | false=>False
      | none=>False
     | none=>False
    | none=>False
   | false=>False
  | _=>False
 | _=>False
def J1 (a:Ar) (m:Bool) (s:S) (dst:Option Nat) (K:S→Prop) (t:Nat) (x y:V):Prop:=match (ty t).elem with
 | some e=>match K7 s.o y with
  | some (sz,ys)=>match c1g (ty e).sz sz with
   | true=>match x with
    | .em=>a.room [] ys (a.new e fun z=>K ((s.fresh m (.row z e ys)).put dst (.own (m7 s.o))))
    | .own k=>match y6 s.o k with
     | .row z e' xs=>match L7 e' e with
      | true=>a.room xs ys (K (S.put ⟨H3 k s.t,G8 (B7 k s.o) k (.row z e (a.app xs ys))⟩ dst (.own k)))
      | false=>False
     | _=>False
    | _=>False
   | false=>False
  | none=>False
 | none=>False
def c4b (a:Ar) (s:S) (dst:Option Nat) (K:S→Prop) (t n:Nat) (ps:List (Nat×Operand)):Prop:=match (ty t).elem with
 | some e=>E4 s.get s.o (fun v=>match v with
  | .d (.sl _ rows)=>a.new e fun z=>K ((s.obj (.row z e rows)).put dst (.own (m7 s.o)))
  | _=>False) t n ps
 | none=>False
def b7R (a:Ar) (s:S) (K:S→Prop) (t:Nat) (x i v:V):Prop:=match (ty t).kind with
 | .map=>match (ty t).key,x with
  | some kt,.mp k=>match c1h s.o kt i,toR s.o v,y6 s.o k with
   | some r,some q,.mp kt' es=>match L7 kt' kt with
    | true=>K ⟨s.t,G8 s.o k (.mp kt (a.mput es r q))⟩
    | false=>False
   | _,_,_=>False
  | _,_=>False
 | _=>False
def a2O (a:Ar) (s:S) (dst:Option Nat) (K:S→Prop) (t:Nat):V→V→Prop
 | .d (.sc (.int _ n)),.d (.sc (.int _ m))=>match a.eq n m with
  | true=>match (ty t).elem with
   | some e=>match a4f [] (F4 (ty e).zero) with
    | some z=>a.rep n z fun rows=>a.new e fun b=>K ((s.obj (.row b e rows)).put dst (.own (m7 s.o)))
    | none=>False
   | none=>False
  | false=>False
 | _,_=>False
def c7L:List Value→Bool
 | .pointer none::.slice none 0 0::_=>true
 | _=>false
def a5F (e:Nat):O:=match c7L (ty e).zero with|true=>.ob e (ty e).zero|false=>.box (F4 (ty e).zero)
def C9 (a:Ar) (m:Bool) (s:S) (dst:Option Nat) (K:S→Prop):Op→Prop
 | .alloc e=>match a3N (F4 (ty e).zero) with
  | true=>K ((s.obj (a5F e)).put dst (.ptr (m7 s.o) 0))
  | false=>False
 | .box _ x=>match a1j (s.get x) with
  | some cs=>K ((s.obj (.box cs)).put dst (.ptr (m7 s.o) 0))
  | none=>False
 | .store t x y=>match dst with
  | none=>J5 a s K t (s.get y) (s.get x)
  | some _=>False
 | .makeSlice t x y=>a2O a s dst K t (s.get x) (s.get y)
 | .makeMap t none=>match (ty t).kind with
  | .map=>match (ty t).key with
   | some kt=>K ((s.obj (.mp kt [])).put dst (.mp (m7 s.o)))
   | none=>False
  | _=>False
 | .mapUpdate t x i v=>match dst with
  | none=>b7R a s K t (s.get x) (s.get i) (s.get v)
  | some _=>False
 | .buildSlice t 0 ⟨[]⟩=>match (ty t).elem with
  | some e=>a.new e fun z=>K ((s.fresh m (.row z e [])).put dst (.own (m7 s.o)))
  | none=>False
 | .call ⟨.builtin .append,⟨[x,y]⟩,⟨[t,_]⟩⟩=>J1 a m s dst K t (s.get x) (s.get y)
 | .buildSlice t (n+1) ps=>match m with
  | true=>a.lit t fun c=>match c with
   | true=>E9 a s.get s.o (fun v=>K (s.put dst v)) (.buildSlice t (n+1) ps)
   | false=>c4b a s dst K t (n+1) ps.toList
  | false=>E9 a s.get s.o (fun v=>K (s.put dst v)) (.buildSlice t (n+1) ps)
 | .call ⟨.value (.func f),args,ts⟩=>match m with
  | true=>a.callo f (H0 s.get args.toList) s (fun v s'=>K (s'.put dst v))
  | false=>E9 a s.get s.o (fun v=>K (s.put dst v)) (.call ⟨.value (.func f),args,ts⟩)
 | .call ⟨.value (.tmp i),args,ts⟩=>match m with
  | true=>match fnV (n6 s.t i) with
   | some (f,ks)=>a.callo f (a2G (H0 s.get args.toList) (a7q ks)) s (fun v s'=>K (s'.put dst v))
   | none=>False
  | false=>E9 a s.get s.o (fun v=>K (s.put dst v)) (.call ⟨.value (.tmp i),args,ts⟩)
 | op=>E9 a s.get s.o (fun v=>K (s.put dst v)) op
def getD:List (Option Nat)→Nat→Option Nat
 | [],_=>none
 | x::_,0=>x
 | _::l,n+1=>getD l n
def Z6:V:=.tu []
def guard (s:S) (dsts:List (Option Nat)) (j:Nat) (K:Option Bool→Prop):Prop:=match getD dsts j with
 | some d=>match n6 s.t d with
  | .d (.sc (.bool c))=>K (some c)
  | .tu []=>K none
  | _=>False
 | none=>False
def l8:List Oper→List (Option Nat)
 | []=>[]
 | o::l=>o.dst::l8 l
def run (a:Ar) (m:Bool) (dsts:List (Option Nat)):List Oper→S→(S→Prop)→Prop
 | [],s,K=>K s
 | ⟨dst,op,_,_,_,none⟩::l,s,K=>C9 a m s dst (fun s=>run a m dsts l s K) op
 | ⟨dst,op,_,_,_,some (j,b)⟩::l,s,K=>guard s dsts j fun
  | some c=>match bEq c b with
   | true=>C9 a m s dst (fun s=>run a m dsts l s K) op
   | false=>run a m dsts l (s.put dst Z6) K
  | none=>run a m dsts l (s.put dst Z6) K
def c3t:List O→Bool
 | []=>false
 | .it _::_=>true
 | _::l=>c3t l
def c7M:V→Bool
 | .bs _ _=>true
 | _=>false
def c5R (os:List O):V→Bool
 | .own k=>match y6 os k with|.it _=>true|_=>false
 | _=>false
def c3u (os:List O):List V→Bool
 | []=>false
 | x::l=>match c5R os x with|true=>true|false=>c3u os l
def b7S (s:S):List (Nat×Operand)→Bool
 | []=>false
 | (_,x)::l=>match (match s.get x with|.ag cs=>c3u s.o cs|v=>c5R s.o v) with|true=>true|false=>b7S s l
def c5S (s:S):Op→Bool
 | .call ⟨.builtin .append,⟨[_,y]⟩,_⟩=>c7M (s.get y)
 | .buildSlice _ (_+1) ps=>b7S s ps.toList
 | .convert t0 t _=>match a0z (ty t0).kind with|true=>a0z (ty t).kind|false=>false
 | _=>false
def a6s (a:Ar) (s:S) (dst:Option Nat) (K:S→Prop) (op:Op):Prop:=match c5S s op with
 | true=>a.ext op dst s K
 | false=>C9 a true s dst K op
def a12 (a:Ar) (dsts:List (Option Nat)):List Oper→S→(S→Prop)→Prop
 | [],s,K=>K s
 | ⟨dst,op,_,_,_,none⟩::l,s,K=>a6s a s dst (fun s=>a12 a dsts l s K) op
 | ⟨dst,op,_,_,_,some (j,b)⟩::l,s,K=>guard s dsts j fun
  | some c=>match bEq c b with
   | true=>a6s a s dst (fun s=>a12 a dsts l s K) op
   | false=>a12 a dsts l (s.put dst Z6) K
  | none=>a12 a dsts l (s.put dst Z6) K
def c5T (N:S→Prop) (K:X→S→Prop):X→S→Prop
 | .normal,s=>N s
 | .exit i,s=>K (.exit i) s
 | .ret,s=>K .ret s
def b7T (id:Nat) (K:X→S→Prop):X→S→Prop
 | .normal,s=>K .normal s
 | .exit i,s=>match L7 i id with|true=>K .normal s|false=>K (.exit i) s
 | .ret,s=>K .ret s
def upN:List Nat→Nat→Nat→Nat
 | k::_,_,0=>k
 | _::l,n,j+1=>upN l n j
 | [],n,j=>n+j
def upK (ks:List Nat) (n:Nat):List Nat→List Nat
 | []=>[]
 | j::l=>upN ks n j::upK ks n l
def up1 (ks:List Nat) (n:Nat):V→V
 | .own j=>.own (upN ks n j)
 | .ptr j off=>.ptr (upN ks n j) off
 | .cl f l=>.cl f (upK ks n l)
 | .el j i sz off=>.el (upN ks n j) i sz off
 | .mp j=>.mp (upN ks n j)
 | .bs j m=>.bs (upN ks n j) m
 | .ag _=>.jk
 | .tu _=>.jk
 | x=>x
def upL (ks:List Nat) (n:Nat):List V→List V
 | []=>[]
 | x::l=>up1 ks n x::upL ks n l
def up2 (ks:List Nat) (n:Nat):V→V
 | .ag cs=>.ag (upL ks n cs)
 | .tu []=>.tu []
 | x=>up1 ks n x
def upT (ks:List Nat) (n:Nat):List V→List V
 | []=>[]
 | x::l=>up2 ks n x::upT ks n l
def upO (ks:List Nat) (n:Nat):O→O
 | .box cs=>.box (upL ks n cs)
 | .kl _=>.dead
 | x=>x
def N8 (ks:List Nat) (n:Nat):List O→List O
 | []=>[]
 | x::l=>upO ks n x::N8 ks n l
def c1i:List O→List O→List O
 | [],m=>m
 | x::l,m=>x::c1i l m
def E7:List Nat→List O→List O→List O
 | k::ks,x::os,l=>E7 ks os (G8 l k x)
 | _,os,l=>c1i l os
def A2:List Nat→List V→List V
 | [],t=>t
 | k::ks,t=>A2 ks (H3 k t)
def T0:List Nat→List O→List O
 | [],l=>l
 | k::ks,l=>T0 ks (B7 k l)
def a2P (ks:List Nat) (os:List O) (s:S):S:=⟨A2 ks s.t,E7 ks (N8 ks (m7 s.o) os) (T0 ks s.o)⟩
def a9f (k:Nat):List Nat→Bool
 | []=>false
 | j::l=>match L7 j k with|true=>true|false=>a9f k l
def a7r:List Nat→Bool
 | []=>true
 | k::l=>match a9f k l with|true=>false|false=>a7r l
def pick:List Nat→List O→List O
 | [],_=>[]
 | k::ks,l=>y6 l k::pick ks l
def b7U:List O→Bool
 | []=>true
 | .dead::_=>false
 | .kl _::_=>false
 | _::l=>b7U l
def b7V (o:List O) (k:Nat):List O:=match y6 o k with
 | .row _ e rows=>G8 o k (.row true e rows)
 | _=>o
def frz:List Nat→List O→List O
 | [],o=>o
 | k::ks,o=>frz ks (b7V o k)
def b40:Nat→Nat→List Nat→Bool
 | _,0,_=>true
 | j,n+1,k::l=>match L7 j k with|true=>b40 (j+1) n l|false=>false
 | _,_+1,[]=>false
def Z8:List V→V
 | [v]=>v
 | vs=>.tu vs
end Go.Proofs.Ytahpnackkmbmgaa.Vm
end
section
namespace Go.Proofs.Ytahpnackkmbmgaa
open Go.RowKit
set_option maxRecDepth 100000
set_option maxHeartbeats 4000000
section
def gb (l:List Int) (i:Nat):Int:=l.getD i 0
theorem a30 (l:List Int) (a i:Nat):gb (l.drop a) i=gb l (a+i):=by
 unfold gb;simp [c9x]
theorem c4d {l:List Int} {i:Nat} (h:i<l.length):l[i]?=some (gb l i):=by unfold gb;simp [h]
theorem c1j {l:List Int} {k:Nat} (h:k<l.length):l.take (k+1)=l.take k++[gb l k]:=by
 rw [d0m h];unfold gb;simp [h]
theorem b7W {l:List Int} {i:Nat} (h:i<l.length):gb l i∈l:=c9h (c4d h)
section
variable {w w':World} {k:IntKind} {b off:Nat} {l:List Int} {A:Option Addr}
end
end
section
section
variable {w w':World} {g:Nat} {t:TypeId} {cs:Array Value}
end
section
variable {w w':World} {g:Nat} {t:TypeId} {k:IntKind} {l:List Int}
end
end
section
section
variable {P:Program} (w:World)
end
def Own (w:World) (base:Nat) (t:TypeId) (k:IntKind) (v:Value) (ps:List Int):Prop:=w.ownsRow base t 1 v ps.length (ps.map (Value.int k))
section
variable {w w':World} {base:Nat} {t:TypeId} {k:IntKind} {v:Value} {ps:List Int}
theorem Own.mono {base':Nat} (h:Own w base t k v ps) (hb:base'≤base):Own w base' t k v ps:=by
 refine ⟨h.1,?_⟩
 rcases h.2 with h2|⟨g,cap,cur,hv,hg,r⟩
 ·exact .inl h2
 ·exact .inr ⟨g,cap,cur,hv,by omega,r⟩
end
end
section
section
variable {P:Program} (w:World)
def c3w (w:World) (A:Option Addr) (m size:Nat) (ys:List Value):Prop:=ys.length=m * size∧(A=none→m=0)∧(∀ad,A=some ad→∀j u,ys[j]?=some u→w.cell? (ad.add j)=some u)∧∀u∈ys,u.oneCell'=true
end
end
end Go.Proofs.Ytahpnackkmbmgaa
end
section
namespace Go.Proofs.Ytahpnackkmbmgaa.Vm
open Go.RowKit
set_option maxRecDepth 100000
set_option maxHeartbeats 4000000
def Up (I:Nat→Nat→Prop) (b n:Nat):Prop:=∃h,n≤h∧I b h
theorem Up.mono {I I':Nat→Nat→Prop} (hI:∀b h,I b h→I' b h) {b n:Nat} (h:Up I b n):Up I' b n:=by
 obtain ⟨k,h1,h2⟩:=h;exact ⟨k,h1,hI _ _ h2⟩
theorem Up.down {I:Nat→Nat→Prop} {b n m:Nat} (h:Up I b n) (hm:m≤n):Up I b m:=by
 obtain ⟨k,h1,h2⟩:=h;exact ⟨k,d0k hm h1,h2⟩
inductive AtD (I:Nat→Nat→Prop) (w:World):Value→D→Prop
 | sc (v:Value) (h:v.oneCell'=true):AtD I w v (.sc v)
 | nil (A:Option Addr) (cap sz:Nat):AtD I w (.slice A 0 cap) (.sl sz [])
 | sl (b off cap sz:Nat) (rows:List (List D)) (us:List Value) (hcap:rows.length≤cap) (hI:Up I b (off+rows.length * sz)) (hr:∀r∈rows,r.length=sz) (hl:us.length=rows.length * sz)
   (hc:∀i u,us[i]?=some u→w.cell? ⟨b,off+i,none⟩=some u) (hd:∀(i:Nat) (u:Value) (d:D),us[i]?=some u→rows.flatten[i]?=some d→AtD I w u d) :
   AtD I w (.slice (some ⟨b,off,none⟩) rows.length cap) (.sl sz rows)
def y9 (I:Nat→Nat→Prop) (w w':World):Prop:=∀b h,I b h→∀i,i<h→w'.cell? ⟨b,i,none⟩=w.cell? ⟨b,i,none⟩
theorem y9.trans {I:Nat→Nat→Prop} {w1 w2 w3:World} (h:y9 I w1 w2) (h2:y9 I w2 w3):y9 I w1 w3:=fun b k hb i hi=>(h2 b k hb i hi).trans (h b k hb i hi)
theorem y9.refl (I:Nat→Nat→Prop) (w:World):y9 I w w:=fun _ _ _ _ _=>rfl
theorem AtD.mono {I I':Nat→Nat→Prop} {w w':World} (hI:∀b h,I b h→I' b h) (hk:y9 I w w') {v:Value} {d:D} (h:AtD I w v d):AtD I' w' v d:=by
 induction h with
 | sc v h=>exact .sc v h
 | nil A cap sz=>exact .nil A cap sz
 | sl b off cap sz rows us hcap hi hr hl hc _ ih =>
  refine .sl b off cap sz rows us hcap (hi.mono hI) hr hl (fun i u hu=>?_) ih
  have hlt:i<rows.length * sz:=by rw [←hl];exact (c8S.1 hu).1
  obtain ⟨k,hk1,hk2⟩:=hi
  exact (hk _ _ hk2 _ (by omega)).trans (hc i u hu)
theorem AtD.one {I:Nat→Nat→Prop} {w:World} {v:Value} {d:D} (h:AtD I w v d):v.oneCell'=true:=by
 cases h with
 | sc v h=>exact h
 | nil=>rfl
 | sl=>rfl
theorem a1k {α:Type} {sz:Nat}:∀ {rows:List (List α)},(∀r∈rows,r.length=sz)→rows.flatten.length=rows.length * sz
 | [],_=>by simp
 | r::rows,h=>by
  rw [c9F,c8U,h r (c8V ..),a1k fun x hx=>h x (c8X _ hx),c9a,c9M]
  omega
theorem a00 {α:Type} {sz:Nat}:∀ {rows:List (List α)},(∀r∈rows,r.length=sz)→∀ {i j:Nat} {r:List α},rows[i]?=some r→j<sz→rows.flatten[i * sz+j]?=r[j]?
 | [],_,i,j,r,hr,_=>by simp at hr
 | s::rows,h,0,j,r,hr,hj=>by
  simp at hr
  subst hr
  rw [c9F,c9l (by rw [h s (c8V ..)];omega)]
  simp
 | s::rows,h,i+1,j,r,hr,hj=>by
  have hr':rows[i]?=some r:=by simpa using hr
  rw [c9F,c9b (by rw [h s (c8V ..),c9M];omega),←a00 (fun x hx=>h x (c8X _ hx)) hr' hj]
  congr 1
  rw [h s (c8V ..),c9M]
  omega
def B0 (I:Nat→Nat→Prop) (w:World) (us:List Value) (ds:List D):Prop:=us.length=ds.length∧∀(i:Nat) (u:Value) (d:D),us[i]?=some u→ds[i]?=some d→AtD I w u d
theorem B0.mono {I I':Nat→Nat→Prop} {w w':World} (hI:∀b h,I b h→I' b h) (hk:y9 I w w') {us:List Value} {ds:List D} (h:B0 I w us ds):B0 I' w' us ds :=
 ⟨h.1,fun i u d hu hd=>(h.2 i u d hu hd).mono hI hk⟩
theorem B0.nil (I:Nat→Nat→Prop) (w:World):B0 I w [] []:=⟨rfl,fun i u d h=>by simp at h⟩
theorem B0.cons {I:Nat→Nat→Prop} {w:World} {u:Value} {d:D} {us:List Value} {ds:List D} (h:AtD I w u d) (hs:B0 I w us ds):B0 I w (u::us) (d::ds) :=
 ⟨by simp [hs.1],fun i x y hx hy=>by
  cases i with
  | zero=>simp at hx hy;subst hx;subst hy;exact h
  | succ i=>exact hs.2 i x y (by simpa using hx) (by simpa using hy)⟩
theorem B0.uncons {I:Nat→Nat→Prop} {w:World} {us:List Value} {d:D} {ds:List D} (h:B0 I w us (d::ds)):∃u us',us=u::us'∧AtD I w u d∧B0 I w us' ds:=by
 cases us with
 | nil=>have:=h.1;simp at this
 | cons u us=>exact ⟨u,us,rfl,h.2 0 u d rfl rfl,by have:=h.1;simpa using this,fun i x y hx hy=>h.2 (i+1) x y (by simpa using hx) (by simpa using hy)⟩
theorem B0.one {I:Nat→Nat→Prop} {w:World} {us:List Value} {ds:List D} (h:B0 I w us ds):∀u∈us,u.oneCell'=true:=by
 intro u hu
 obtain ⟨i,hi⟩:=c9A.1 hu
 have hlt:i<ds.length:=by rw [←h.1];exact (c8S.1 hi).1
 exact (h.2 i u _ hi (c8T hlt)).one
theorem B0.drop {I:Nat→Nat→Prop} {w:World} {us:List Value} {ds:List D} (h:B0 I w us ds) (n:Nat):B0 I w (us.drop n) (ds.drop n) :=
 ⟨by simp [h.1],fun i u d hu hd=>h.2 (n+i) u d (by rw [←c9x];exact hu) (by rw [←c9x];exact hd)⟩
theorem B0.take {I:Nat→Nat→Prop} {w:World} {us:List Value} {ds:List D} (h:B0 I w us ds) (n:Nat):B0 I w (us.take n) (ds.take n) :=
 ⟨by simp [h.1],fun i u d hu hd=>by
  rw [c91] at hu hd
  split at hu
  ·rw [c8Y (by assumption)] at hd;exact h.2 i u d hu hd
  ·cases hu⟩
theorem B0.append {I:Nat→Nat→Prop} {w:World} {us us':List Value} {ds ds':List D} (h:B0 I w us ds) (h':B0 I w us' ds'):B0 I w (us++us') (ds++ds') :=
 ⟨by simp [h.1,h'.1],fun i u d hu hd=>by
  by_cases hi:i<us.length
  ·rw [c9l hi] at hu
   rw [c9l (by rw [←h.1];exact hi)] at hd
   exact h.2 i u d hu hd
  ·rw [c9b (by omega)] at hu
   rw [c9b (by rw [←h.1];omega),←h.1] at hd
   exact h'.2 _ u d hu hd⟩
theorem AtD.slice {I:Nat→Nat→Prop} {w:World} {v:Value} {sz:Nat} {rows:List (List D)} (h:AtD I w v (.sl sz rows)):∃A cap,v=.slice A rows.length cap∧rows.length≤cap∧(rows=[]∨∃b off us,A=some ⟨b,off,none⟩∧Up I b (off+rows.length * sz)∧(∀r∈rows,r.length=sz) ∧
  us.length=rows.length * sz∧(∀i u,us[i]?=some u→w.cell? ⟨b,off+i,none⟩=some u)∧B0 I w us rows.flatten):=by
 cases h with
 | nil A cap sz=>exact ⟨A,cap,rfl,c95 _,.inl rfl⟩
 | sl b off cap sz rows us hcap hI hr hl hc hd=>exact ⟨_,cap,rfl,hcap,.inr ⟨b,off,us,rfl,hI,hr,hl,hc,by rw [hl,a1k hr],hd⟩⟩
def b7X (v:Value) (F:List Nat):Value:=.tuple (v::F.map fun b=>.pointer (some ⟨b,0,none⟩)).toArray
def gv:Value→Value
 | .tuple us=>us.getD 0 .nilFunc
 | v=>v
inductive AtV (I:Nat→Nat→Prop) (w:World) (g:Nat→Value):Value→V→Prop
 | d {v:Value} {x:D} (h:AtD I w v x):AtV I w g v (.d x)
 | ag (us:List Value) (cs:List V) (hl:us.length=cs.length) (h:∀(i:Nat) (u:Value) (c:V),us[i]?=some u→cs[i]?=some c→AtV I w g u c):AtV I w g (.agg us.toArray) (.ag cs)
 | tu (us:List Value) (cs:List V) (hl:us.length=cs.length) (h:∀(i:Nat) (u:Value) (c:V),us[i]?=some u→cs[i]?=some c→AtV I w g u c):AtV I w g (.tuple us.toArray) (.tu cs)
 | em:AtV I w g (.slice none 0 0) .em
 | own (k:Nat) (A:Option Addr) (n cap:Nat) (h:gv (g k)=.slice A n cap):AtV I w g (.slice A n cap) (.own k)
 | ptr (k off b:Nat) (h:g k=.pointer (some ⟨b,0,none⟩)):AtV I w g (.pointer (some ⟨b,off,none⟩)) (.ptr k off)
 | cl (f:Nat) (us:List Value) (ks:List Nat) (hl:us.length=ks.length) (h:∀(i:Nat) (u:Value) (k:Nat),us[i]?=some u→ks[i]?=some k→u=g k∧∃b,g k=.pointer (some ⟨b,0,none⟩)):AtV I w g (.func (.func f) #[] us.toArray) (.cl f ks)
 | el (k:Nat) (i:Int) (sz off b n cap:Nat) (h:g k=.slice (some ⟨b,0,none⟩) n cap):AtV I w g (.pointer (some ⟨b,i.toNat * sz+off,none⟩)) (.el k i sz off)
 | ro (b o off:Nat) (us:List Value) (cs:List D) (hI:Up I b (o+cs.length)) (hc:∀i u,us[i]?=some u→w.cell? ⟨b,o+i,none⟩=some u) (hd:B0 I w us cs):AtV I w g (.pointer (some ⟨b,o+off,none⟩)) (.ro cs off)
 | mp (k b:Nat) (h:g k=.map (some b)):AtV I w g (.map (some b)) (.mp k)
 | bs (k n b cap:Nat) (h:g k=.pointer (some ⟨b,0,none⟩)) (hn:n≤cap):AtV I w g (.slice (some ⟨b,0,none⟩) n cap) (.bs k n)
 | jk (v:Value):AtV I w g v .jk
theorem AtV.mono {I I':Nat→Nat→Prop} {w w':World} {g:Nat→Value} (hI:∀b h,I b h→I' b h) (hk:y9 I w w') {v:Value} {x:V} (h:AtV I w g v x):AtV I' w' g v x:=by
 induction h with
 | d h=>exact .d (h.mono hI hk)
 | ag us cs hl _ ih=>exact .ag us cs hl ih
 | tu us cs hl _ ih=>exact .tu us cs hl ih
 | em=>exact .em
 | own k A n cap h=>exact .own k A n cap h
 | ptr k off b h=>exact .ptr k off b h
 | cl f us ks hl h=>exact .cl f us ks hl h
 | el k i sz off b n cap h=>exact .el k i sz off b n cap h
 | ro b o off us cs hi hc hd =>
  refine .ro b o off us cs (hi.mono hI) (fun i u hu=>?_) (hd.mono hI hk)
  have hlt:i<cs.length:=by rw [←hd.1];exact (c8S.1 hu).1
  obtain ⟨k,hk1,hk2⟩:=hi
  exact (hk _ _ hk2 _ (by omega)).trans (hc i u hu)
 | mp k b h=>exact .mp k b h
 | bs k n b cap h hn=>exact .bs k n b cap h hn
 | jk v=>exact .jk v
def j8 (I:Nat→Nat→Prop) (w:World) (g:Nat→Value) (us:List Value) (cs:List V):Prop:=us.length=cs.length∧∀(i:Nat) (u:Value) (c:V),us[i]?=some u→cs[i]?=some c→AtV I w g u c
theorem j8.mono {I I':Nat→Nat→Prop} {w w':World} {g:Nat→Value} (hI:∀b h,I b h→I' b h) (hk:y9 I w w') {us:List Value} {cs:List V} (h:j8 I w g us cs):j8 I' w' g us cs :=
 ⟨h.1,fun i u d hu hd=>(h.2 i u d hu hd).mono hI hk⟩
theorem j8.nil (I:Nat→Nat→Prop) (w:World) (g:Nat→Value):j8 I w g [] []:=⟨rfl,fun i u d h=>by simp at h⟩
theorem j8.cons {I:Nat→Nat→Prop} {w:World} {g:Nat→Value} {u:Value} {d:V} {us:List Value} {ds:List V} (h:AtV I w g u d) (hs:j8 I w g us ds):j8 I w g (u::us) (d::ds) :=
 ⟨by simp [hs.1],fun i x y hx hy=>by
  cases i with
  | zero=>simp at hx hy;subst hx;subst hy;exact h
  | succ i=>exact hs.2 i x y (by simpa using hx) (by simpa using hy)⟩
theorem j8.uncons {I:Nat→Nat→Prop} {w:World} {g:Nat→Value} {us:List Value} {d:V} {ds:List V} (h:j8 I w g us (d::ds)):∃u us',us=u::us'∧AtV I w g u d∧j8 I w g us' ds:=by
 cases us with
 | nil=>have:=h.1;simp at this
 | cons u us=>exact ⟨u,us,rfl,h.2 0 u d rfl rfl,by have:=h.1;simpa using this,fun i x y hx hy=>h.2 (i+1) x y (by simpa using hx) (by simpa using hy)⟩
theorem j8.unnil {I:Nat→Nat→Prop} {w:World} {g:Nat→Value} {us:List Value} (h:j8 I w g us []):us=[]:=c9t h.1
theorem j8.drop {I:Nat→Nat→Prop} {w:World} {g:Nat→Value} {us:List Value} {ds:List V} (h:j8 I w g us ds) (n:Nat):j8 I w g (us.drop n) (ds.drop n) :=
 ⟨by simp [h.1],fun i u d hu hd=>h.2 (n+i) u d (by rw [←c9x];exact hu) (by rw [←c9x];exact hd)⟩
theorem j8.take {I:Nat→Nat→Prop} {w:World} {g:Nat→Value} {us:List Value} {ds:List V} (h:j8 I w g us ds) (n:Nat):j8 I w g (us.take n) (ds.take n) :=
 ⟨by simp [h.1],fun i u d hu hd=>by
  rw [c91] at hu hd
  split at hu
  ·rw [c8Y (by assumption)] at hd;exact h.2 i u d hu hd
  ·cases hu⟩
theorem j8.append {I:Nat→Nat→Prop} {w:World} {g:Nat→Value} {us us':List Value} {ds ds':List V} (h:j8 I w g us ds) (h':j8 I w g us' ds'):j8 I w g (us++us') (ds++ds') :=
 ⟨by simp [h.1,h'.1],fun i u d hu hd=>by
  by_cases hi:i<us.length
  ·rw [c9l hi] at hu
   rw [c9l (by rw [←h.1];exact hi)] at hd
   exact h.2 i u d hu hd
  ·rw [c9b (by omega)] at hu
   rw [c9b (by rw [←h.1];omega),←h.1] at hd
   exact h'.2 _ u d hu hd⟩
theorem j8.set {I:Nat→Nat→Prop} {w:World} {g:Nat→Value} {us:List Value} {ds:List V} (h:j8 I w g us ds) {u:Value} {d:V} (hd:AtV I w g u d) (n:Nat):j8 I w g (us.set n u) (ds.set n d) :=
 ⟨by simp [h.1],fun i x y hx hy=>by
  by_cases hi:n=i
  ·subst hi
   have hlt:n<us.length:=by
    have:=(c8S.1 hx).1
    simpa using this
   rw [c93 hlt] at hx
   rw [c93 (by rw [←h.1];exact hlt)] at hy
   injection hx with hx
   injection hy with hy
   subst hx;subst hy
   exact hd
  ·rw [c9p hi] at hx hy
   exact h.2 i x y hx hy⟩
theorem M7 {I:Nat→Nat→Prop} {w:World} {g:Nat→Value} {us:List Value} {cs:List V} (h:j8 I w g us cs):AtV I w g (.agg us.toArray) (.ag cs):=.ag us cs h.1 h.2
theorem a1D {I:Nat→Nat→Prop} {w:World} {g:Nat→Value} {us:List Value} {cs:List V} (h:j8 I w g us cs):AtV I w g (.tuple us.toArray) (.tu cs):=.tu us cs h.1 h.2
theorem AtV.unag {I:Nat→Nat→Prop} {w:World} {g:Nat→Value} {v:Value} {cs:List V} (h:AtV I w g v (.ag cs)):∃us,v=.agg us.toArray∧j8 I w g us cs:=by
 cases h with
 | ag us cs hl h=>exact ⟨us,rfl,hl,h⟩
theorem AtV.untu {I:Nat→Nat→Prop} {w:World} {g:Nat→Value} {v:Value} {cs:List V} (h:AtV I w g v (.tu cs)):∃us,v=.tuple us.toArray∧j8 I w g us cs:=by
 cases h with
 | tu us cs hl h=>exact ⟨us,rfl,hl,h⟩
theorem AtV.unem {I:Nat→Nat→Prop} {w:World} {g:Nat→Value} {v:Value} (h:AtV I w g v .em):v=.slice none 0 0:=by cases h;rfl
theorem AtV.unown {I:Nat→Nat→Prop} {w:World} {g:Nat→Value} {v:Value} {k:Nat} (h:AtV I w g v (.own k)):v=gv (g k)∧∃A n cap,gv (g k)=.slice A n cap:=by
 cases h with
 | own k A n cap h=>exact ⟨h.symm,A,n,cap,h⟩
theorem AtV.unbs {I:Nat→Nat→Prop} {w:World} {g:Nat→Value} {v:Value} {k n:Nat} (h:AtV I w g v (.bs k n)):∃b cap,g k=.pointer (some ⟨b,0,none⟩)∧v=.slice (some ⟨b,0,none⟩) n cap∧n≤cap:=by
 cases h with
 | bs k n b cap h hn=>exact ⟨b,cap,h,rfl,hn⟩
theorem AtV.unmp {I:Nat→Nat→Prop} {w:World} {g:Nat→Value} {v:Value} {k:Nat} (h:AtV I w g v (.mp k)):∃b,g k=.map (some b)∧v=.map (some b):=by
 cases h with
 | mp k b h=>exact ⟨b,h,rfl⟩
theorem AtV.unptr {I:Nat→Nat→Prop} {w:World} {g:Nat→Value} {v:Value} {k off:Nat} (h:AtV I w g v (.ptr k off)):∃b,g k=.pointer (some ⟨b,0,none⟩)∧v=.pointer (some ⟨b,off,none⟩):=by
 cases h with
 | ptr k off b h=>exact ⟨b,h,rfl⟩
theorem B0.toV {I:Nat→Nat→Prop} {w:World} (g:Nat→Value):∀ {ds:List D} {us:List Value},B0 I w us ds→j8 I w g us (y5 ds)
 | [],us,h=>by
  rw [c9t h.1]
  exact .nil I w g
 | d::ds,us,h=>by
  obtain ⟨u,us',rfl,h1,h2⟩:=h.uncons
  exact .cons (.d h1) (B0.toV g h2)
section
structure Fr (X:Nat→Prop) (w w':World):Prop where
 os:w'.os=w.os
 tape:w'.tape=w.tape
 output:w'.output=w.output
 size:w.heap.size≤w'.heap.size
 block:∀b,b<w.heap.size→¬X b→w'.heap[b]?=w.heap[b]?
theorem Fr.refl (X:Nat→Prop) (w:World):Fr X w w:=⟨rfl,rfl,rfl,c9c _,fun _ _ _=>rfl⟩
def b3r (X:Nat→Prop) (w:World):Prop:=∀t∈c3W,w.var? Try.prog t.1=some (t.2.2.map fun z=>Value.int t.2.1 z).toArray∧∀g,Try.prog.globalNamed t.1=some g→¬X g
theorem b7Y {w:World} {name:String} {a:Array Value} (h:w.var? Try.prog name=some a):∃g t c,Try.prog.globalNamed name=some g∧w.heap[g]?=some (.cells a t c)∧g<w.heap.size:=by
 unfold World.var? at h
 cases hg:Try.prog.globalNamed name with
 | none=>rw [hg] at h;cases h
 | some g =>
  rw [hg] at h
  simp only [Option.bind_some] at h
  cases ho:w.heap[g]? with
  | none=>rw [ho] at h;cases h
  | some o =>
   rw [ho] at h
   cases o with
   | cells a' t c=>injection h with h;subst h;exact ⟨g,t,c,rfl,ho,(c9g.1 ho).1⟩
   | _=>cases h
theorem b7Z {w:World} {name:String} {a:Array Value} {g:Nat} {t:TypeId} {c:Nat×Nat} (hg:Try.prog.globalNamed name=some g) (h:w.heap[g]?=some (.cells a t c)):w.var? Try.prog name=some a:=by
 unfold World.var?
 rw [hg]
 simp only [Option.bind_some,h]
theorem b3r.fr {X X':Nat→Prop} {w w':World} (h:b3r X w) (hf:Fr X w w') (hX:∀b,b<w.heap.size→¬X b→¬X' b):b3r X' w':=fun t ht=>by
 obtain ⟨h1,h2⟩:=h t ht
 obtain ⟨g,ty,c,e1,e2,e3⟩:=b7Y h1
 exact ⟨b7Z e1 ((hf.block g e3 (h2 g e1)).trans e2),fun g' hg'=>by rw [e1] at hg';injection hg' with hg';subst hg';exact hX _ e3 (h2 _ e1)⟩
def Wld (I:Nat→Nat→Prop) (w:World):Prop:=(∀b h,I b h→b<w.heap.size)∧b3r (fun _=>False) w
structure W0 where
 w:World
 g:Nat→Value
 n:Nat
 d:List Deferred
def gbl:Value→Nat→Prop
 | .pointer (some a),b=>a.block=b
 | .slice (some a) _ _,b=>a.block=b
 | .map (some c),b=>c=b
 | .tuple us,b=>.pointer (some ⟨b,0,none⟩)∈us.toList
 | _,_=>False
theorem a1Q {A:Option Addr} {n cap:Nat} {F:List Nat} {b:Nat}:gbl (b7X (.slice A n cap) F) b↔b∈F:=by
 show Value.pointer (some ⟨b,0,none⟩)∈Value.slice A n cap::F.map (fun b=>.pointer (some ⟨b,0,none⟩))↔_
 simp
def W7:Value→Bool
 | .pointer _=>true
 | .map _=>true
 | .agg _=>true
 | _=>false
def a2o (X:Nat→Prop) (w0:W0) (b:Nat):Prop:=w0.w.heap.size≤b∨X b
def AtR (I:Nat→Nat→Prop) (w:World) (v:Value):R→Prop
 | .one x=>AtD I w v x
 | .ag xs=>∃us,v=.agg us.toArray∧B0 I w us xs
theorem AtR.mono {I I':Nat→Nat→Prop} {w w':World} (hI:∀b h,I b h→I' b h) (hk:y9 I w w') {v:Value} {r:R} (h:AtR I w v r):AtR I' w' v r:=by
 cases r with
 | one x=>exact AtD.mono hI hk h
 | ag xs=>obtain ⟨us,h1,h2⟩:=h;exact ⟨us,h1,h2.mono hI hk⟩
def b0z (I:Nat→Nat→Prop) (w:World) (kt:Nat) (l:List MapEntry) (es:List (R×R)):Prop:=l.length=es.length∧∀(i:Nat) (e:MapEntry) (p:R×R),l[i]?=some e→es[i]?=some p→AtR I w e.key p.1∧AtR I w e.val p.2∧a2F kt p.1=true
theorem b0z.mono {I I':Nat→Nat→Prop} {w w':World} (hI:∀b h,I b h→I' b h) (hk:y9 I w w') {kt:Nat} {l:List MapEntry} {es:List (R×R)} (h:b0z I w kt l es):b0z I' w' kt l es :=
 ⟨h.1,fun i e p he hp=>by obtain ⟨h1,h2,h3⟩:=h.2 i e p he hp;exact ⟨h1.mono hI hk,h2.mono hI hk,h3⟩⟩
def a0b (X:Nat→Prop) (w0:W0) (I:Nat→Nat→Prop) (w:World) (g:Nat→Value) (k:Nat):O→Prop
 | .dead=>True
 | .box cs=>∃(b:Nat) (us:List Value) (t:TypeId×List Value),g k=.pointer (some ⟨b,0,none⟩)∧w.heap[b]?=some (.cells (us++t.2).toArray t.1 (0,0))∧j8 I w g us cs∧(∀u∈us,u.oneCell'=true)∧(∀h,¬I b h)∧a2o X w0 b
 | .mp kt es=>∃b l c,g k=.map (some b)∧w.heap[b]?=some (.map l c)∧b0z I w kt l.toList es∧(∀h,¬I b h)∧a2o X w0 b
 | .kl ks=>∃us,g k=.agg us∧us.size≤k∧∀(j:Nat) (u:Value),us[j]?=some u→u=.nilFunc∨g j=u∨j∈ks
 | .ob T vs=>∃b:Nat,g k=.pointer (some ⟨b,0,none⟩)∧w.heap[b]?=some (.cells vs.toArray T (0,0))∧(∀h,¬I b h)∧a2o X w0 b
 | .it P=>∃A n cap F,g k=b7X (.slice A n cap) F∧P w (.slice A n cap) F∧(∀w':World,(∀b∈F,w'.heap[b]?=w.heap[b]?)→P w' (.slice A n cap) F)∧∀b∈F,(∃(c:Array Value) (t:TypeId),w.heap[b]?=some (.cells c t (0,0)))∧(∀h,¬I b h)∧a2o X w0 b
 | .row z e rows=>∃us,w.ownsRow 0 e (ty e).sz (g k) rows.length us∧(∀r∈rows,r.length=(ty e).sz)∧B0 I w us rows.flatten ∧
   ∀b,(g k).ownBlock=some b→(z=true→I b (rows.length * (ty e).sz))∧(∀h,I b h→z=true∧h≤rows.length * (ty e).sz)∧a2o X w0 b
def M5 (s:S) (k:Nat):Prop:=∃o,s.o[k]?=some o∧o≠.dead
structure RelI (I0:Nat→Nat→Prop) (X:Nat→Prop) (w0:W0) (I:Nat→Nat→Prop) (g:Nat→Value) (s:S) (a:Act) (w:World):Prop where
 im:∀b h,I0 b h→I b h
 lt:∀b h,I b h→b<w.heap.size∧(b<w0.w.heap.size→I0 b h∨X b)
 fr:Fr X w0.w w
 kp:y9 I0 w0.w w
 lo:w0.n≤s.o.length
 st:∀k,k<w0.n→W7 (w0.g k)=true→g k=w0.g k
 obj:∀k o,s.o[k]?=some o→a0b X w0 I w g k o
 dis:∀j k b,M5 s j→M5 s k→gbl (g j) b→gbl (g k) b→j=k
 out:∀k,s.o.length≤k→g k=.nilFunc
 tmp:j8 I w g a.tmps.toList s.t
 dfr:a.defers=w0.d∧b3r X w0.w
def Rel (I0:Nat→Nat→Prop) (X:Nat→Prop) (w0:W0) (s:S) (a:Act) (w:World):Prop:=∃I g,RelI I0 X w0 I g s a w
theorem o9:∀l:List O,m7 l=l.length
 | []=>rfl
 | _::l=>by rw [m7,o9 l];rfl
theorem H4 {α:Type}:∀l:List α,C4 l=l.length
 | []=>rfl
 | _::l=>by rw [C4,H4 l];rfl
theorem a01 (o:O):∀l:List O,r9 l o=l++[o]
 | []=>rfl
 | x::l=>by rw [r9,a01 o l];rfl
theorem G7 (o:O):∀(l:List O) (k:Nat),G8 l k o=l.set k o
 | [],_=>rfl
 | _::_,0=>rfl
 | x::l,k+1=>by rw [G8,G7 o l k];rfl
theorem a0q (v:V):∀(l:List V) (k:Nat),E6 l k v=l.set k v
 | [],_=>rfl
 | _::_,0=>rfl
 | x::l,k+1=>by rw [E6,a0q v l k];rfl
theorem A6:∀ {l:List O} {k:Nat} {o:O},y6 l k=o→o≠.dead→l[k]?=some o
 | [],_,_,h,hd=>absurd h.symm hd
 | x::_,0,_,h,_=>by rw [y6] at h;rw [h];rfl
 | x::l,k+1,_,h,hd=>by rw [y6] at h;simpa using A6 h hd
theorem a0Y:∀ {l:List V} {k:Nat} {v:V},n6 l k=v→v≠.jk→l[k]?=some v
 | [],_,_,h,hd=>absurd h.symm hd
 | x::_,0,_,h,_=>by rw [n6] at h;rw [h];rfl
 | x::l,k+1,_,h,hd=>by rw [n6] at h;simpa using a0Y h hd
theorem a2Q:∀(l:List V) (k:Nat),l[k]?=some (n6 l k)∨(l.length≤k∧n6 l k=.jk)
 | [],_=>.inr ⟨by simp,rfl⟩
 | x::_,0=>.inl rfl
 | x::l,k+1=>by
  rcases a2Q l k with h|⟨h1,h2⟩
  ·exact .inl (by simpa [n6] using h)
  ·exact .inr ⟨by simp;exact h1,by rw [n6];exact h2⟩
theorem a02 {α:Type}:∀(n:Nat) (l:List α),L9 n l=l.drop n
 | 0,_=>rfl
 | _+1,[]=>rfl
 | n+1,_::l=>by rw [L9,a02 n l];rfl
theorem a03 {α:Type}:∀ {n:Nat} {l m:List α},J4 n l=some m→m=l.take n∧m.length=n
 | 0,_,_,h=>by injection h with h;subst h;simp
 | _+1,[],_,h=>by cases h
 | n+1,x::l,m,h=>by
  rw [J4] at h
  split at h
  ·rename_i t ht
   injection h with h
   subst h
   have:=a03 ht
   exact ⟨by simp [this.1],by simp [this.2]⟩
  ·cases h
theorem C1:∀ {n m:Nat},L7 n m=true↔n=m
 | 0,0=>by simp [L7]
 | 0,m+1=>by simp [L7]
 | n+1,0=>by simp [L7]
 | n+1,m+1=>by rw [L7,C1];omega
theorem a2R {n m:Nat}:L7 n m=false↔n≠m:=by
 rw [←Bool.not_eq_true,C1]
theorem a0g {α:Type}:∀ {l:List α} {n:Nat} {m r:List α},splice l n m=some r→r=l.take n++m++l.drop (n+m.length)∧n+m.length≤l.length
 | l,0,[],r,h=>by
  rw [splice] at h
  injection h with h
  subst h
  simp
 | x::l,0,y::ys,r,h=>by
  rw [splice] at h
  split at h
  ·rename_i t ht
   injection h with h
   subst h
   obtain ⟨e,hl⟩:=a0g ht
   refine ⟨?_,by simp at hl ⊢;omega⟩
   rw [e]
   simp
  ·cases h
 | x::l,n+1,ys,r,h=>by
  rw [splice] at h
  split at h
  ·rename_i t ht
   injection h with h
   subst h
   obtain ⟨e,hl⟩:=a0g ht
   refine ⟨?_,by simp at hl ⊢;omega⟩
   rw [e]
   simp [Nat.add_right_comm]
  ·cases h
 | [],n+1,ys,r,h=>by rw [splice] at h;cases h
 | [],0,y::ys,r,h=>by rw [splice] at h;cases h
theorem j8.splice {I:Nat→Nat→Prop} {w:World} {g:Nat→Value} {us vs:List Value} {cs ds r:List V} {n:Nat} (h:j8 I w g us cs) (h':j8 I w g vs ds) (hr:splice cs n ds=some r):j8 I w g (us.take n++vs++us.drop (n+vs.length)) r:=by
 obtain ⟨e,_⟩:=a0g hr
 subst e
 rw [h'.1]
 exact ((h.take n).append h').append (h.drop _)
section
variable {I0:Nat→Nat→Prop} {X:Nat→Prop} {w0:W0} {I:Nat→Nat→Prop} {g:Nat→Value} {s:S} {a:Act} {w:World}
theorem a9t (v:Value):AtV I w g v (a5D v):=by
 unfold a5D
 split
 ·exact .em
 ·exact .jk _
 ·exact .jk _
 ·rename_i h1 h2 h3
  refine .d (.sc _ ?_)
  cases v <;> first|rfl|(exfalso;exact h2 _ rfl)|(exfalso;exact h3 _ rfl)
theorem N2:∀l:List Value,j8 I w g l (F4 l)
 | []=>.nil I w g
 | x::l=>.cons (a9t x) (N2 l)
theorem RelI.get (h:RelI I0 X w0 I g s a w) (x:Operand):AtV I w g (a.eval x) (s.get x):=by
 cases x with
 | tmp i =>
  show AtV I w g (a.tmps.getD i undef) (n6 s.t i)
  rcases a2Q s.t i with h1|⟨_,h2⟩
  ·have hi:i<s.t.length:=(c8S.1 h1).1
   have hi':i<a.tmps.size:=by have h2:=h.tmp.1;rw [d0q] at h2;rw [h2];exact hi
   have h3:=h.tmp.2 i a.tmps[i] _ (by simp [hi']) h1
   rw [Array.getD_eq_getD_getElem?,c9P hi']
   exact h3
  ·rw [h2];exact .jk _
 | const v=>exact a9t v
 | global k=>exact .jk _
 | func f=>exact .cl f [] [] rfl fun i u k hu _=>by simp at hu
theorem RelI.gets (h:RelI I0 X w0 I g s a w):∀l:List Operand,j8 I w g (l.map a.eval) (H0 s.get l)
 | []=>.nil I w g
 | x::l=>.cons (h.get x) (h.gets l)
theorem RelI.put (h:RelI I0 X w0 I g s a w) {v:Value} {x:V} (hv:AtV I w g v x) (dst:Option Nat):RelI I0 X w0 I g (s.put dst x) (a.put dst v) w:=by
 cases dst with
 | none=>exact h
 | some d =>
  refine ⟨h.im,h.lt,h.fr,h.kp,h.lo,h.st,h.obj,h.dis,h.out,?_,h.dfr⟩
  show j8 I w g (a.tmps.setIfInBounds d v).toList (E6 s.t d x)
  rw [a0q,Array.toList_setIfInBounds]
  exact h.tmp.set hv d
theorem Fr.drew {wz:World} (h:Fr X wz w):Fr X wz w.drew:=⟨h.os,h.tape,h.output,h.size,h.block⟩
theorem RelI.drew (h:RelI I0 X w0 I g s a w):RelI I0 X w0 I g s a w.drew:=by
 have hk:y9 I w w.drew:=fun _ _ _ _ _=>rfl
 refine ⟨h.im,h.lt,h.fr.drew,h.kp,h.lo,h.st,fun k o ho=>?_,h.dis,h.out,h.tmp.mono (fun _ _ h=>h) hk,h.dfr⟩
 have:=h.obj k o ho
 cases o with
 | dead=>exact True.intro
 | box cs=>obtain ⟨b,us,t,h1,h2,h3,h4,h5,h6⟩:=this;exact ⟨b,us,t,h1,h2,h3.mono (fun _ _ h=>h) hk,h4,h5,h6⟩
 | row z e rows=>obtain ⟨us,h1,h2,h3,h4⟩:=this;exact ⟨us,h1,h2,h3.mono (fun _ _ h=>h) hk,h4⟩
 | mp kt es=>obtain ⟨b,l,c,h1,h2,h3,h4⟩:=this;exact ⟨b,l,c,h1,h2,h3.mono (fun _ _ h=>h) hk,h4⟩
 | it P=>obtain ⟨A,n,cap,F,h1,h2,h3,h4⟩:=this;exact ⟨A,n,cap,F,h1,h3 _ fun _ _=>rfl,h3,h4⟩
 | ob T vs=>obtain ⟨b,h1,h2,h3⟩:=this;exact ⟨b,h1,h2,h3⟩
 | kl ks=>exact this
theorem a0b.blk {k:Nat} {o:O} (h:a0b X w0 I w g k o) (hd:o≠.dead):∀b,gbl (g k) b→b<w.heap.size∧a2o X w0 b:=by
 intro b hb
 cases o with
 | dead=>exact absurd rfl hd
 | box cs =>
  obtain ⟨b',us,t,h1,h2,h3,h4,h5,h6⟩:=h
  rw [h1] at hb
  obtain rfl:b'=b:=hb
  exact ⟨(c9g.1 h2).1,h6⟩
 | row z e rows =>
  obtain ⟨us,h1,h2,h3,h4⟩:=h
  rcases h1.2 with ⟨e0,_⟩|⟨g',cap,cur,e0,_,hh,_⟩
  ·rw [e0] at hb;exact hb.elim
  ·rw [e0] at hb
   obtain rfl:g'=b:=hb
   exact ⟨(c9g.1 hh).1,(h4 _ (by rw [e0];rfl)).2.2⟩
 | mp kt es =>
  obtain ⟨b',l,c,h1,h2,h3,h4,h5⟩:=h
  rw [h1] at hb
  obtain rfl:b'=b:=hb
  exact ⟨(c9g.1 h2).1,h5⟩
 | ob T vs =>
  obtain ⟨b',h1,h2,h4,h5⟩:=h
  rw [h1] at hb
  obtain rfl:b'=b:=hb
  exact ⟨(c9g.1 h2).1,h5⟩
 | it P =>
  obtain ⟨A,n,cap,F,h1,h2,h3,h4⟩:=h
  rw [h1,a1Q] at hb
  obtain ⟨⟨c,t,h5⟩,h6⟩:=h4 b hb
  exact ⟨(c9g.1 h5).1,h6.2⟩
 | kl ks =>
  obtain ⟨us,h1,_⟩:=h
  rw [h1] at hb
  exact hb.elim
theorem RelI.tabs (h:RelI I0 X w0 I g s a w) {X':Nat→Prop} (hX:∀b,X' b→a2o X w0 b):b3r X' w:=h.dfr.2.fr h.fr fun b hb hn hx=>(hX b hx).elim (fun h3=>absurd hb (Nat.not_lt.2 h3)) hn
theorem RelI.wld (h:RelI I0 X w0 I g s a w):Wld I w:=⟨fun b k hb=>(h.lt b k hb).1,h.tabs fun _ h=>h.elim⟩
theorem a0b.keep {k:Nat} {o:O} {w':World} {I':Nat→Nat→Prop} (h:a0b X w0 I w g k o) (hI:∀b h,I b h→I' b h) (hk:y9 I w w') (hb:∀b,gbl (g k) b→w'.heap[b]?=w.heap[b]?) (hI':∀b,gbl (g k) b→∀h,I' b h→I b h):a0b X w0 I' w' g k o:=by
 cases o with
 | dead=>exact True.intro
 | box cs =>
  obtain ⟨b,us,t,h1,h2,h3,h4,h5,h6⟩:=h
  have hg:gbl (g k) b:=by rw [h1];rfl
  exact ⟨b,us,t,h1,(hb b hg).trans h2,h3.mono hI hk,h4,fun h h'=>h5 h (hI' b hg h h'),h6⟩
 | row z e rows =>
  obtain ⟨us,h1,h2,h3,h4⟩:=h
  have hblk:∀b,(g k).ownBlock=some b→gbl (g k) b:=fun b hb'=>by
   rcases h1.2 with ⟨e0,_⟩|⟨g',cap,cur,e0,_⟩ <;> rw [e0] at hb' ⊢
   ·cases hb'
   ·exact Option.some.inj hb'
  refine ⟨us,⟨h1.1,?_⟩,h2,h3.mono hI hk,fun b hb'=>⟨fun hz=>hI _ _ ((h4 b hb').1 hz),fun h h'=>(h4 b hb').2.1 h (hI' b (hblk b hb') h h'),(h4 b hb').2.2⟩⟩
  rcases h1.2 with h0|⟨g',cap,cur,e0,hb',hh,r⟩
  ·exact .inl h0
  ·exact .inr ⟨g',cap,cur,e0,hb',(hb g' (by rw [e0];rfl)).trans hh,r⟩
 | mp kt es =>
  obtain ⟨b,l,c,h1,h2,h3,h4,h5⟩:=h
  have hg:gbl (g k) b:=by rw [h1];rfl
  exact ⟨b,l,c,h1,(hb b hg).trans h2,h3.mono hI hk,fun h h'=>h4 h (hI' b hg h h'),h5⟩
 | ob T vs =>
  obtain ⟨b,h1,h2,h4,h5⟩:=h
  have hg:gbl (g k) b:=by rw [h1];rfl
  exact ⟨b,h1,(hb b hg).trans h2,fun h h'=>h4 h (hI' b hg h h'),h5⟩
 | it P =>
  obtain ⟨A,n,cap,F,h1,h2,h3,h4⟩:=h
  have hg:∀b∈F,gbl (g k) b:=fun b hb=>by rw [h1,a1Q];exact hb
  have hF:∀b∈F,w'.heap[b]?=w.heap[b]?:=fun b hm=>hb b (hg b hm)
  refine ⟨A,n,cap,F,h1,h3 w' hF,fun w2 h2=>h3 w2 fun b hb=>(h2 b hb).trans (hF b hb),fun b hm=>⟨?_,fun h h'=>(h4 b hm).2.1 h (hI' b (hg b hm) h h'),(h4 b hm).2.2⟩⟩
  obtain ⟨c,t,h5⟩:=(h4 b hm).1
  exact ⟨c,t,(hF b hm).trans h5⟩
 | kl ks=>exact h
theorem RelI.grow (h:RelI I0 X w0 I g s a w) {w':World} (hb:Below w.heap.size w w') {I':Nat→Nat→Prop} (hI:∀b k,I b k→I' b k) (hI':∀b k,I' b k→I b k∨(w.heap.size≤b∧b<w'.heap.size)):RelI I0 X w0 I' g s a w':=by
 have hk:y9 I w w':=fun b k hbk i _=>hb.cell (p:=⟨b,i,none⟩) (h.lt b k hbk).1
 refine ⟨fun b k hb=>hI _ _ (h.im b k hb),fun b k hbk=>?_,?_,h.kp.trans fun b k hbk i hi=>hk b k (h.im b k hbk) i hi,h.lo,h.st,fun k o ho=>?_,h.dis,h.out,h.tmp.mono hI hk,h.dfr⟩
 ·rcases hI' b k hbk with h1|⟨h1,h2⟩
  ·exact ⟨c9U (h.lt b k h1).1 hb.size,(h.lt b k h1).2⟩
  ·exact ⟨h2,fun h3=>absurd (c9U h3 h.fr.size) (by omega)⟩
 ·exact ⟨hb.os.trans h.fr.os,hb.tape.trans h.fr.tape,hb.output.trans h.fr.output,d0k h.fr.size hb.size,fun b hb1 hX=>(hb.block b (c9U hb1 h.fr.size)).trans (h.fr.block b hb1 hX)⟩
 ·cases hd:o with
  | dead=>exact True.intro
  | box cs =>
   have ho':=h.obj k o ho
   rw [hd] at ho'
   refine ho'.keep hI hk (fun b hb'=>hb.block b (ho'.blk (by simp) b hb').1) fun b hb' k' hk'=>?_
   rcases hI' b k' hk' with h1|⟨h1,_⟩
   ·exact h1
   ·have:=(ho'.blk (by simp) b hb').1;omega
  | row z e rows =>
   have ho':=h.obj k o ho
   rw [hd] at ho'
   refine ho'.keep hI hk (fun b hb'=>hb.block b (ho'.blk (by simp) b hb').1) fun b hb' k' hk'=>?_
   rcases hI' b k' hk' with h1|⟨h1,_⟩
   ·exact h1
   ·have:=(ho'.blk (by simp) b hb').1;omega
  | mp kt es =>
   have ho':=h.obj k o ho
   rw [hd] at ho'
   refine ho'.keep hI hk (fun b hb'=>hb.block b (ho'.blk (by simp) b hb').1) fun b hb' k' hk'=>?_
   rcases hI' b k' hk' with h1|⟨h1,_⟩
   ·exact h1
   ·have:=(ho'.blk (by simp) b hb').1;omega
  | ob T vs =>
   have ho':=h.obj k o ho
   rw [hd] at ho'
   refine ho'.keep hI hk (fun b hb'=>hb.block b (ho'.blk (by simp) b hb').1) fun b hb' k' hk'=>?_
   rcases hI' b k' hk' with h1|⟨h1,_⟩
   ·exact h1
   ·have:=(ho'.blk (by simp) b hb').1;omega
  | it P =>
   have ho':=h.obj k o ho
   rw [hd] at ho'
   refine ho'.keep hI hk (fun b hb'=>hb.block b (ho'.blk (by simp) b hb').1) fun b hb' k' hk'=>?_
   rcases hI' b k' hk' with h1|⟨h1,_⟩
   ·exact h1
   ·have:=(ho'.blk (by simp) b hb').1;omega
  | kl ks =>
   have ho':=h.obj k o ho
   rw [hd] at ho'
   refine ho'.keep hI hk (fun b hb'=>hb.block b (ho'.blk (by simp) b hb').1) fun b hb' k' hk'=>?_
   rcases hI' b k' hk' with h1|⟨h1,_⟩
   ·exact h1
   ·have:=(ho'.blk (by simp) b hb').1;omega
end
end
section
theorem AtV.more {I:Nat→Nat→Prop} {w:World} {g g':Nat→Value} (hg:∀k,g k≠.nilFunc→g' k=g k) {v:Value} {x:V} (h:AtV I w g v x):AtV I w g' v x:=by
 induction h with
 | d h=>exact .d h
 | ag us cs hl _ ih=>exact .ag us cs hl ih
 | tu us cs hl _ ih=>exact .tu us cs hl ih
 | em=>exact .em
 | own k A n cap h=>exact .own k A n cap ((congrArg gv (hg k (by intro e;rw [e] at h;cases h))).trans h)
 | ptr k off b h=>exact .ptr k off b ((hg k (by rw [h];simp)).trans h)
 | cl f us ks hl h =>
  exact .cl f us ks hl fun i u k hu hk=>by
   obtain ⟨h1,b,h2⟩:=h i u k hu hk
   have h3:=hg k (by rw [h2];simp)
   exact ⟨h1.trans h3.symm,b,h3.trans h2⟩
 | el k i sz off b n cap h=>exact .el k i sz off b n cap ((hg k (by rw [h];simp)).trans h)
 | ro b o off us cs hi hc hd=>exact .ro b o off us cs hi hc hd
 | mp k b h=>exact .mp k b ((hg k (by rw [h];simp)).trans h)
 | bs k n b cap h hn=>exact .bs k n b cap ((hg k (by rw [h];simp)).trans h) hn
 | jk v=>exact .jk v
theorem j8.more {I:Nat→Nat→Prop} {w:World} {g g':Nat→Value} (hg:∀k,g k≠.nilFunc→g' k=g k) {us:List Value} {cs:List V} (h:j8 I w g us cs):j8 I w g' us cs :=
 ⟨h.1,fun i u d hu hd=>(h.2 i u d hu hd).more hg⟩
theorem a0b.more {X:Nat→Prop} {w0:W0} {I:Nat→Nat→Prop} {w:World} {g g':Nat→Value} (hg:∀k,g k≠.nilFunc→g' k=g k) {k:Nat} {o:O} (h:a0b X w0 I w g k o):a0b X w0 I w g' k o:=by
 cases o with
 | dead=>exact True.intro
 | box cs =>
  obtain ⟨b,us,t,h1,h2,h3,h4⟩:=h
  exact ⟨b,us,t,(hg k (by rw [h1];simp)).trans h1,h2,h3.more hg,h4⟩
 | row z e rows =>
  obtain ⟨us,h1,h2,h3,h4⟩:=h
  have:g' k=g k:=hg k (by rcases h1.2 with ⟨e0,_⟩|⟨g',cap,cur,e0,_⟩ <;> rw [e0] <;> simp)
  exact ⟨us,by rw [this];exact h1,h2,h3,by rw [this];exact h4⟩
 | mp kt es =>
  obtain ⟨b,l,c,h1,h2⟩:=h
  exact ⟨b,l,c,(hg k (by rw [h1];simp)).trans h1,h2⟩
 | ob T vs =>
  obtain ⟨b,h1,h2⟩:=h
  exact ⟨b,(hg k (by rw [h1];simp)).trans h1,h2⟩
 | it P =>
  obtain ⟨A,n,cap,F,h1,h2⟩:=h
  exact ⟨A,n,cap,F,(hg k (by rw [h1];simp [b7X])).trans h1,h2⟩
 | kl ks =>
  obtain ⟨us,h1,h2,h3⟩:=h
  refine ⟨us,(hg k (by rw [h1];simp)).trans h1,h2,fun j u hu=>?_⟩
  rcases h3 j u hu with h4|h4|h4
  ·exact .inl h4
  ·by_cases e:u=.nilFunc
   ·exact .inl e
   ·exact .inr (.inl ((hg j (by rw [h4];exact e)).trans h4))
  ·exact .inr (.inr h4)
section
variable {I0:Nat→Nat→Prop} {X:Nat→Prop} {w0:W0} {I:Nat→Nat→Prop} {g:Nat→Value} {s:S} {a:Act} {w:World}
def upd (g:Nat→Value) (k:Nat) (v:Value):Nat→Value:=fun j=>if j=k then v else g j
theorem n8 (g:Nat→Value) (k:Nat) (v:Value):upd g k v k=v:=c8Y rfl
theorem E0 {g:Nat→Value} {k:Nat} {v:Value} {j:Nat} (h:j≠k):upd g k v j=g j:=c8W h
theorem RelI.fresh (h:RelI I0 X w0 I g s a w) (v:Value):∀k,g k≠.nilFunc→upd g s.o.length v k=g k:=fun k hk=>E0 fun e=>hk (h.out k (by omega))
theorem RelI.newObj (h:RelI I0 X w0 I g s a w) (o:O) (v:Value) (ho:a0b X w0 I w (upd g s.o.length v) s.o.length o) (hdis:∀j b,M5 s j→gbl (g j) b→¬gbl v b):RelI I0 X w0 I (upd g s.o.length v) (s.obj o) a w:=by
 have hg:=h.fresh v
 have hget:∀k o',(s.o++[o])[k]?=some o'→(k<s.o.length∧s.o[k]?=some o')∨(k=s.o.length∧o'=o):=fun k o' hk=>by
  rcases c9N k s.o.length with hlt|hge
  ·rw [c9l hlt] at hk;exact .inl ⟨hlt,hk⟩
  ·rw [c9b hge] at hk
   have h0:k - s.o.length=0:=by
    have:=(c8S.1 hk).1;simp at this;omega
   rw [h0] at hk
   simp at hk
   exact .inr ⟨by omega,hk.symm⟩
 have ho2:(s.obj o).o=s.o++[o]:=a01 o s.o
 refine ⟨h.im,h.lt,h.fr,h.kp,by rw [ho2,c8U];exact d0k h.lo (Nat.le_add_right _ _),fun k hk hr=>by rw [E0 (by have:=h.lo;omega)];exact h.st k hk hr,fun k o' hk=>?_,fun j k b hj hk hbj hbk=>?_,fun k hk=>?_,h.tmp.more hg,h.dfr⟩
 ·rw [ho2] at hk
  rcases hget k o' hk with ⟨hlt,hk'⟩|⟨rfl,rfl⟩
  ·exact (h.obj k o' hk').more hg
  ·exact ho
 ·obtain ⟨oj,hoj,hdj⟩:=hj
  obtain ⟨ok,hok,hdk⟩:=hk
  rw [ho2] at hoj hok
  rcases hget j oj hoj with ⟨hlj,hj'⟩|⟨rfl,rfl⟩ <;> rcases hget k ok hok with ⟨hlk,hk'⟩|⟨rfl,rfl⟩
  ·rw [E0 (by omega)] at hbj hbk
   exact h.dis j k b ⟨_,hj',hdj⟩ ⟨_,hk',hdk⟩ hbj hbk
  ·rw [E0 (by omega)] at hbj
   rw [n8] at hbk
   exact absurd hbk (hdis j b ⟨_,hj',hdj⟩ hbj)
  ·rw [E0 (by omega)] at hbk
   rw [n8] at hbj
   exact absurd hbj (hdis k b ⟨_,hk',hdk⟩ hbk)
  ·rfl
 ·rw [ho2,c8U,d00] at hk
  rw [E0 (by omega)]
  exact h.out k (by omega)
theorem RelI.blk_lt (h:RelI I0 X w0 I g s a w) {j b:Nat} (hj:M5 s j) (hb:gbl (g j) b):b<w.heap.size:=by
 obtain ⟨o,ho,hd⟩:=hj
 exact ((h.obj j o ho).blk hd b hb).1
theorem RelI.box (h:RelI I0 X w0 I g s a w) {us:List Value} {cs:List V} (hus:j8 I w g us cs) (h1:∀u∈us,u.oneCell'=true) (t:TypeId) :
  ∃g',g' s.o.length=.pointer (some ⟨w.heap.size,0,none⟩)∧RelI I0 X w0 I g' (s.obj (.box cs)) a (w.alloc (.cells us.toArray t)):=by
 have hb:Below w.heap.size w (w.alloc (.cells us.toArray t)):=(Below.refl _ _).alloc (c9c _) _
 have h2:=h.grow hb (I':=I) (fun _ _ h=>h) (fun _ _ h=>.inl h)
 have hk:y9 I w (w.alloc (.cells us.toArray t)):=fun b k hbk i _=>hb.cell (p:=⟨b,i,none⟩) (h.lt b k hbk).1
 refine ⟨upd g s.o.length (.pointer (some ⟨w.heap.size,0,none⟩)),n8 ..,h2.newObj _ _ ⟨w.heap.size,us,(t,[]),n8 ..,by rw [c9i];exact heap_alloc_new w _,(hus.more (h.fresh _)).mono (fun _ _ h=>h) hk,h1,fun k hk'=>?_,.inl h.fr.size⟩ fun j b hj hbj e=>?_⟩
 ·exact absurd (h.lt _ _ hk').1 (by omega)
 ·have e:w.heap.size=b:=e
  have:=h.blk_lt hj hbj
  omega
theorem RelI.obNew (h:RelI I0 X w0 I g s a w) (us:List Value) (t:TypeId) :
  ∃g',g' s.o.length=.pointer (some ⟨w.heap.size,0,none⟩)∧RelI I0 X w0 I g' (s.obj (.ob t us)) a (w.alloc (.cells us.toArray t)):=by
 have hb:Below w.heap.size w (w.alloc (.cells us.toArray t)):=(Below.refl _ _).alloc (c9c _) _
 have h2:=h.grow hb (I':=I) (fun _ _ h=>h) (fun _ _ h=>.inl h)
 refine ⟨upd g s.o.length (.pointer (some ⟨w.heap.size,0,none⟩)),n8 ..,h2.newObj _ _ ⟨w.heap.size,n8 ..,heap_alloc_new w _,fun k hk'=>?_,.inl h.fr.size⟩ fun j b hj hbj e=>?_⟩
 ·exact absurd (h.lt _ _ hk').1 (by omega)
 ·have e:w.heap.size=b:=e
  have:=h.blk_lt hj hbj
  omega
theorem a04 {s:S} {k:Nat} {o o':O} (hk:s.o[k]?=some o) (hd:o≠.dead) {j:Nat} (h:M5 ⟨s.t,s.o.set k o'⟩ j):M5 s j:=by
 obtain ⟨oj,hoj,hdj⟩:=h
 by_cases e:k=j
 ·subst e;exact ⟨o,hk,hd⟩
 ·simp only [c9p e] at hoj
  exact ⟨oj,hoj,hdj⟩
theorem RelI.store (h:RelI I0 X w0 I g s a w) {k n:Nat} {cs ds r:List V} {vs:List Value} (hk:s.o[k]?=some (.box cs)) (hv:j8 I w g vs ds) (h1:∀u∈vs,u.oneCell'=true) (hr:splice cs n ds=some r) :
  ∃(b:Nat) (us:List Value) (t:TypeId),g k=.pointer (some ⟨b,0,none⟩)∧w.heap[b]?=some (.cells us.toArray t (0,0))∧n+vs.length≤us.length∧RelI I0 X w0 I g ⟨s.t,s.o.set k (.box r)⟩ a (w.setRow b (us.take n++vs++us.drop (n+vs.length)).toArray):=by
 obtain ⟨b,us,t,hg,hb,hus,h1s,hI,hM⟩:=h.obj k _ hk
 obtain ⟨er,hl⟩:=a0g hr
 have hnl:n+vs.length≤us.length:=by rw [hv.1,hus.1];exact hl
 refine ⟨b,us++t.2,t.1,hg,hb,by rw [c8U];omega,?_⟩
 rw [List.take_append_of_le_length (by omega),List.drop_append_of_le_length hnl,←c90]
 have hblk:gbl (g k) b:=by rw [hg];rfl
 have hlk:M5 s k:=⟨_,hk,by simp⟩
 have hkp:y9 I w (w.setRow b (us.take n++vs++us.drop (n+vs.length)++t.2).toArray):=fun b' h' hi i _=>by
  refine cell_setRow_other _ _ _ _ fun e=>?_
  simp only at e
  subst e
  exact hI _ hi
 refine ⟨h.im,fun b' h' hi=>by rw [setRow_size];exact h.lt b' h' hi,?_,h.kp.trans fun b k hbk i hi=>hkp b k (h.im b k hbk) i hi,by simpa using h.lo,h.st,fun j o hj=>?_,fun i j b' hi hj=>h.dis i j b' (a04 hk (by simp) hi) (a04 hk (by simp) hj),fun j hj=>h.out j (by simpa using hj),h.tmp.mono (fun _ _ h=>h) hkp,h.dfr⟩
 ·refine ⟨h.fr.os,h.fr.tape,h.fr.output,by rw [setRow_size];exact h.fr.size,fun b' hb' hX=>?_⟩
  rw [setRow_other _ _ _ _ (fun e=>?_)]
  ·exact h.fr.block b' hb' hX
  ·subst e
   rcases hM with hM|hM
   ·omega
   ·exact hX hM
 ·by_cases e:k=j
  ·subst e
   have hlt:k<s.o.length:=(c8S.1 hk).1
   simp only [c93 hlt] at hj
   injection hj with hj
   subst hj
   refine ⟨b,_,t,hg,setRow_heap w b _ _ t.1 (0,0) hb,(hus.splice hv hr).mono (fun _ _ h=>h) hkp,fun u hu=>?_,hI,hM⟩
   rcases c99.1 hu with hu|hu
   ·rcases c99.1 hu with hu|hu
    ·exact h1s u (d03 hu)
    ·exact h1 u hu
   ·exact h1s u (d04 hu)
  ·simp only [c9p e] at hj
   have ho:=h.obj j o hj
   by_cases hd:o=.dead
   ·subst hd;exact True.intro
   ·refine ho.keep (fun _ _ h=>h) hkp (fun b' hb'=>setRow_other _ _ _ _ fun e'=>?_) fun _ _ _ h=>h
    subst e'
    exact e (h.dis k j _ hlk ⟨o,hj,hd⟩ hblk hb')
theorem b1K {α:Type} {sz off:Nat} {ds:List α}:∀ {rows:List (List α)} {i:Nat} {row row':List α},(∀r∈rows,r.length=sz)→rows[i]?=some row→splice row off ds=some row'→(rows.set i row').flatten=rows.flatten.take (i * sz+off)++ds++rows.flatten.drop (i * sz+off+ds.length)
 | [],i,row,row',_,h,_=>by simp at h
 | r::rows,0,row,row',hl,h,hs=>by
  simp at h
  subst h
  obtain ⟨e,hle⟩:=a0g hs
  subst e
  have hr:=hl r (c8V ..)
  rw [List.set_cons_zero,c9F,c9F,d0e,c9L,List.take_append_of_le_length (by omega),List.drop_append_of_le_length hle]
  simp
 | r::rows,i+1,row,row',hl,h,hs=>by
  have hr:=hl r (c8V ..)
  have ih:=b1K (fun x hx=>hl x (c8X _ hx)) (by simpa using h) hs
  have e1:(i+1) * sz+off=r.length+(i * sz+off):=by rw [hr,c9M];omega
  rw [List.set_cons_succ,c9F,c9F,ih,e1,List.take_length_add_append,c9S r.length,List.drop_length_add_append]
  simp
theorem RelI.setEl (h:RelI I0 X w0 I g s a w) {k e i off:Nat} {rows:List (List D)} {row ds row':List D} {vs:List Value} (hk:s.o[k]?=some (.row false e rows)) (hr:rows[i]?=some row) (hv:B0 I w vs ds) (hs:splice row off ds=some row') :
  ∃(b n cap:Nat) (cur:Array Value),g k=.slice (some ⟨b,0,none⟩) n cap∧w.heap[b]?=some (.cells cur e (0,0))∧i * (ty e).sz+off+vs.length≤cur.size∧RelI I0 X w0 I g ⟨s.t,s.o.set k (.row false e (rows.set i row'))⟩ a (w.setRow b (cur.toList.take (i * (ty e).sz+off)++vs++cur.toList.drop (i * (ty e).sz+off+vs.length)).toArray):=by
 obtain ⟨us,h1,h2,h3,h4⟩:=h.obj k _ hk
 have hlt:i<rows.length:=(c8S.1 hr).1
 have hrl:=h2 _ (c9h hr)
 obtain ⟨es,hle⟩:=a0g hs
 rcases h1.2 with ⟨_,e2⟩|⟨b,cap,cur,hg,_,hb,hnc,hcm,hcs,htk⟩
 ·omega
 have hblk:gbl (g k) b:=by rw [hg];rfl
 have hown:=h4 b (by rw [hg];rfl)
 have hI:∀h',¬I b h':=fun h' hi=>by have:=(hown.2.1 h' hi).1;cases this
 have hM:=hown.2.2
 have hlk:M5 s k:=⟨_,hk,by simp⟩
 have hsub:i * (ty e).sz+(ty e).sz≤rows.length * (ty e).sz:=by rw [←c9M];exact c9C _ hlt
 have hcap:rows.length * (ty e).sz≤cap * (ty e).sz:=c9C _ hnc
 have hfit:i * (ty e).sz+off+vs.length≤rows.length * (ty e).sz:=by rw [hv.1];omega
 refine ⟨b,rows.length,cap,cur,hg,hb,by omega,?_⟩
 generalize hp:i * (ty e).sz+off=p at *
 have hkp:y9 I w (w.setRow b (cur.toList.take p++vs++cur.toList.drop (p+vs.length)).toArray):=fun b' h' hi i _=>by
  refine cell_setRow_other _ _ _ _ fun e=>?_
  simp only at e
  subst e
  exact hI _ hi
 refine ⟨h.im,fun b' h' hi=>by rw [setRow_size];exact h.lt b' h' hi,?_,h.kp.trans fun b k hbk i hi=>hkp b k (h.im b k hbk) i hi,by simpa using h.lo,h.st,fun j o hj=>?_,fun i j b' hi hj=>h.dis i j b' (a04 hk (by simp) hi) (a04 hk (by simp) hj),fun j hj=>h.out j (by simpa using hj),h.tmp.mono (fun _ _ h=>h) hkp,h.dfr⟩
 ·refine ⟨h.fr.os,h.fr.tape,h.fr.output,by rw [setRow_size];exact h.fr.size,fun b' hb' hX=>?_⟩
  rw [setRow_other _ _ _ _ (fun e=>?_)]
  ·exact h.fr.block b' hb' hX
  ·subst e
   rcases hM with hM|hM
   ·omega
   ·exact hX hM
 ·by_cases e':k=j
  ·subst e'
   have hlt:k<s.o.length:=(c8S.1 hk).1
   simp only [c93 hlt] at hj
   injection hj with hj
   subst hj
   have hcl:cur.toList.length=cap * (ty e).sz:=by simpa using hcs
   refine ⟨us.take p++vs++us.drop (p+vs.length),⟨?_,.inr ⟨b,cap,_,by rw [hg,c9u],c95 _,setRow_heap w b _ _ e (0,0) hb,by rw [c9u];exact hnc,hcm,?_,?_⟩⟩,fun r hrm=>?_,?_,fun b' hb'=>?_⟩
   ·rw [c9u,c8U,c8U,c92,c9z,h1.1]
    omega
   ·simp only [d0n,c8U,c92,c9z,hcl]
    omega
   ·have hA:(cur.toList.take p++vs).length=p+vs.length:=by rw [c8U,c92,hcl];omega
    rw [c9u,List.take_append,c9J (by rw [hA];omega),hA,←htk,List.take_take,d1j (by omega),List.drop_take]
   ·rcases c9Q hrm with hrm|rfl
    ·exact h2 r hrm
    ·rw [es,c8U,c8U,c92,c9z]
     omega
   ·rw [b1K h2 hr hs,hp]
    rw [←hv.1]
    exact (((h3.take p).append hv).append (h3.drop _)).mono (fun _ _ h=>h) hkp
   ·rw [hg] at hb'
    have hb':=Option.some.inj hb'
    subst hb'
    exact ⟨fun hz=>(by cases hz),fun h' hi=>absurd hi (hI h'),hM⟩
  ·simp only [c9p e'] at hj
   have ho:=h.obj j o hj
   by_cases hd:o=.dead
   ·subst hd;exact True.intro
   ·refine ho.keep (fun _ _ h=>h) hkp (fun b' hb'=>setRow_other _ _ _ _ fun e''=>?_) fun _ _ _ h=>h
    subst e''
    exact e' (h.dis k j _ hlk ⟨o,hj,hd⟩ hblk hb')
theorem P4 {g':Nat→Value} {k:Nat} (hg:∀j,j≠k→g' j=g j) (hk:W7 (g k)=true→g' k=g k) {v:Value} {x:V} (h:AtV I w g v x):AtV I w g' v (a7l k x):=by
 have hp:∀j,W7 (g j)=true→g' j=g j:=fun j e=>by
  by_cases hj:j=k
  ·subst hj;exact hk e
  ·exact hg j hj
 cases h with
 | d h=>exact .d h
 | ag us cs hl h=>exact .jk _
 | tu us cs hl h=>exact .jk _
 | em=>exact .em
 | own j A n cap h =>
  show AtV I w g' _ (match L7 j k with|true=>.jk|false=>.own j)
  cases e:L7 j k
  ·exact .own j A n cap ((congrArg gv (hg j (a2R.1 e))).trans h)
  ·exact .jk _
 | ptr j off b h=>exact .ptr j off b ((hp j (by rw [h];rfl)).trans h)
 | mp j b h=>exact .mp j b ((hp j (by rw [h];rfl)).trans h)
 | cl f us ks hl h =>
  exact .cl f us ks hl fun i u j hu hj=>by
   obtain ⟨h1,b,h2⟩:=h i u j hu hj
   have h3:=hp j (by rw [h2];rfl)
   exact ⟨h1.trans h3.symm,b,h3.trans h2⟩
 | el j i sz off b n cap h =>
  show AtV I w g' _ (match L7 j k with|true=>.jk|false=>.el j i sz off)
  cases e:L7 j k
  ·exact .el j i sz off b n cap ((hg j (a2R.1 e)).trans h)
  ·exact .jk _
 | ro b o off us cs hi hc hd=>exact .ro b o off us cs hi hc hd
 | bs j n b cap h hn=>exact .bs j n b cap ((hp j (by rw [h];rfl)).trans h) hn
 | jk v=>exact .jk v
theorem a2S {g':Nat→Value} {k:Nat} (hg:∀j,j≠k→g' j=g j) (hk:W7 (g k)=true→g' k=g k):∀ {cs:List V} {us:List Value},j8 I w g us cs→j8 I w g' us (A3 k cs)
 | [],us,h=>by rw [h.unnil];exact .nil I w g'
 | c::cs,us,h=>by
  obtain ⟨u,us',rfl,h1,h2⟩:=h.uncons
  exact .cons (P4 hg hk h1) (a2S hg hk h2)
theorem b8a {g':Nat→Value} {k:Nat} (hg:∀j,j≠k→g' j=g j) (hk:W7 (g k)=true→g' k=g k) {v:Value} {x:V} (h:AtV I w g v x):AtV I w g' v (E3 k x):=by
 cases x with
 | ag cs =>
  obtain ⟨us,rfl,h2⟩:=h.unag
  exact M7 (a2S hg hk h2)
 | tu cs =>
  cases cs with
  | nil =>
   obtain ⟨us,rfl,h2⟩:=h.untu
   rw [h2.unnil]
   exact a1D (.nil I w g')
  | cons c cs=>exact .jk _
 | d x=>exact P4 hg hk h
 | em=>exact P4 hg hk h
 | own j=>exact P4 hg hk h
 | ptr j off=>exact P4 hg hk h
 | cl f ks=>exact P4 hg hk h
 | el j i sz off=>exact P4 hg hk h
 | ro cs off=>exact P4 hg hk h
 | mp k=>exact P4 hg hk h
 | bs k n=>exact P4 hg hk h
 | jk=>exact .jk _
theorem a4G {g':Nat→Value} {k:Nat} (hg:∀j,j≠k→g' j=g j) (hk:W7 (g k)=true→g' k=g k):∀ {cs:List V} {us:List Value},j8 I w g us cs→j8 I w g' us (H3 k cs)
 | [],us,h=>by rw [h.unnil];exact .nil I w g'
 | c::cs,us,h=>by
  obtain ⟨u,us',rfl,h1,h2⟩:=h.uncons
  exact .cons (b8a hg hk h1) (a4G hg hk h2)
theorem a0Z (k:Nat):∀(l:List O) (j:Nat) (o:O),(B7 k l)[j]?=some o→∃o',l[j]?=some o'∧(o≠.dead→o'≠.dead)∧((∃cs,o'=.box cs∧o=.box (A3 k cs))∨(∃ks,o'=.kl ks∧o=.kl (k::ks))∨(o=o'∧(∀cs,o≠.box cs)∧∀ks,o≠.kl ks))
 | [],j,o,h=>by simp [B7] at h
 | x::l,0,o,h=>by
  cases x with
  | box cs=>simp [B7] at h;exact ⟨_,rfl,fun _=>by simp,.inl ⟨cs,rfl,h.symm⟩⟩
  | kl ks=>simp [B7] at h;exact ⟨_,rfl,fun _=>by simp,.inr (.inl ⟨ks,rfl,h.symm⟩)⟩
  | row z e rows=>simp [B7] at h;subst h;exact ⟨_,rfl,fun h=>h,.inr (.inr ⟨rfl,by simp,by simp⟩)⟩
  | mp kt es=>simp [B7] at h;subst h;exact ⟨_,rfl,fun h=>h,.inr (.inr ⟨rfl,by simp,by simp⟩)⟩
  | it P=>simp [B7] at h;subst h;exact ⟨_,rfl,fun h=>h,.inr (.inr ⟨rfl,by simp,by simp⟩)⟩
  | ob T vs=>simp [B7] at h;subst h;exact ⟨_,rfl,fun h=>h,.inr (.inr ⟨rfl,by simp,by simp⟩)⟩
  | dead=>simp [B7] at h;subst h;exact ⟨_,rfl,fun h=>h,.inr (.inr ⟨rfl,by simp,by simp⟩)⟩
 | x::l,j+1,o,h=>by
  have h':(B7 k l)[j]?=some o:=by cases x <;> simpa [B7] using h
  obtain ⟨o',h1,h2⟩:=a0Z k l j o h'
  exact ⟨o',by simpa using h1,h2⟩
theorem T9 (k:Nat):∀l:List O,(B7 k l).length=l.length
 | []=>rfl
 | x::l=>by cases x <;> simp [B7,T9 k l]
theorem a7s (k:Nat) (z:Bool) (e:Nat) (r:List (List D)):∀l:List O,B7 k (r9 l (.row z e r))=r9 (B7 k l) (.row z e r)
 | []=>rfl
 | x::l=>by cases x <;> simp [r9,B7,a7s k z e r l]
theorem RelI.kill (h:RelI I0 X w0 I g s a w) (k:Nat):RelI I0 X w0 I g ⟨H3 k s.t,B7 k s.o⟩ a w:=by
 refine ⟨h.im,h.lt,h.fr,h.kp,by simpa [T9] using h.lo,h.st,fun j o hj=>?_,fun i j b hi hj=>?_,fun j hj=>?_,a4G (fun _ _=>rfl) (fun _=>rfl) h.tmp,h.dfr⟩
 ·obtain ⟨o',ho',hdd,hsh⟩:=a0Z k s.o j o hj
  have hob:=h.obj j o' ho'
  rcases hsh with ⟨cs,rfl,rfl⟩|⟨ks,rfl,rfl⟩|⟨rfl,hnb,hnf⟩
  ·obtain ⟨b,us,t,h1,h2,h3,h4⟩:=hob
   exact ⟨b,us,t,h1,h2,a2S (fun _ _=>rfl) (fun _=>rfl) h3,h4⟩
  ·obtain ⟨us,h1,h2,h3⟩:=hob
   exact ⟨us,h1,h2,fun i u hu=>(h3 i u hu).imp id (Or.imp id (c8X _))⟩
  ·exact hob
 ·have live':∀j,M5 ⟨H3 k s.t,B7 k s.o⟩ j→M5 s j:=fun j hj=>by
   obtain ⟨o,ho,hd⟩:=hj
   obtain ⟨o',ho',hdd,_⟩:=a0Z k s.o j o ho
   exact ⟨o',ho',hdd hd⟩
  exact h.dis i j b (live' i hi) (live' j hj)
 ·have hj:(B7 k s.o).length≤j:=hj
  rw [T9] at hj
  exact h.out j hj
theorem RelI.freshly {m:Bool} {z:Bool} {e:Nat} {r:List (List D)} (h:RelI I0 X w0 I g (s.obj (.row z e r)) a w):RelI I0 X w0 I g (s.fresh m (.row z e r)) a w:=by
 cases m with
 | true=>exact h
 | false =>
  have h1:=h.kill (m7 s.o)
  have e1:B7 (m7 s.o) (s.obj (.row z e r)).o=r9 (B7 (m7 s.o) s.o) (.row z e r):=a7s ..
  rw [e1] at h1
  exact h1
end
end
section
theorem a1R {P:Program} (w:World) (base:Nat) (t ty e:TypeId) (i:TypeInfo) (z:Value) (size bytes:Nat) (ht:P.underlying t=some (.slice e)) (hi:P.info? e=some i) (hz:i.zero=some z)
  (hsize:i.size=size) (hby:i.bytes=bytes) (hzs:z.cells.size=size) (hpos:0<size) (v:Value) (n:Nat) (xs:List Value) (hown:w.ownsRow base e size v n xs)
  (A:Option Addr) (m c:Nat) (ys:List Value) (hs:c3w w A m size ys) (h63:n+m≤maxLen) (hbytes:(n+m) * bytes≤140737488355328) (hbase:base≤w.heap.size) :
  ∃v' w',(Builtin.append_ #[t,t] ty #[v,.slice A m c]).run P w=.ok v' w'∧w'.ownsRow base e size v' (n+m) (xs++ys) ∧
   ((∃g,v.ownBlock=some g∧v'.ownBlock=some g∧w.grownBy w' (some g))∨(Below w.heap.size w w'∧(v'.ownBlock=none∨v'.ownBlock=some w.heap.size))):=by
 obtain ⟨hl,hn,hc,h1⟩:=hs
 rcases A with _|ad
 ·have hm:=hn rfl
  subst hm
  have hys:ys=[]:=c9t (by rw [hl,d0e])
  subst hys
  refine ⟨v,w,?_,by simpa using hown,?_⟩
  ·rcases hown.2 with ⟨rfl,rfl⟩|⟨g,cap,cur,rfl,_,_,hnc,_⟩
   ·simp [Builtin.append_,run_underlying ht,sizeOf,typeInfo,hi,Builtin.lenOf,Builtin.firstCells]
   ·simp [Builtin.append_,run_underlying ht,sizeOf,typeInfo,hi,Builtin.lenOf,Builtin.firstCells,hnc,storeCells]
  ·cases hb:v.ownBlock with
   | none=>exact .inr ⟨Below.refl _ _,.inl rfl⟩
   | some g=>exact .inl ⟨g,rfl,rfl,World.grownBy.refl w _⟩
 ·obtain ⟨v',w',hrun,h2,h3,_,hat⟩:=run_append_own_at (P:=P) w base t ty e i z size bytes ht hi hz hsize hby hzs hpos v n xs hown ad m c ys hl (hc ad rfl) h1 h63 hbytes hbase
  refine ⟨v',w',hrun,h2,?_⟩
  subst hsize
  subst hby
  rcases hown.2 with ⟨rfl,rfl⟩|⟨g,cap,cur,rfl,hbg,hg,hnc,hcm,hcs,htake⟩
  ·exact .inr ⟨⟨h3.os,h3.tape,h3.output,h3.size,fun k hk=>h3.block k hk (by simp [Value.ownBlock])⟩,hat⟩
  ·by_cases hroom:n+m≤cap
   ·have hfit:n * i.size+ys.length≤cur.size:=by rw [hl,hcs,←d1q];exact c9C _ hroom
    have hr:=run_append_room (P:=P) w t ty e i ht hi g n cap cur hg ad m c ys hl (hc ad rfl) h1 hroom hfit
    rw [hrun] at hr
    injection hr with e1 e2
    subst e1
    exact .inl ⟨g,rfl,rfl,h3⟩
   ·have holds:∀j u,xs[j]?=some u→w.cell? ((⟨g,0,none⟩:Addr).add j)=some u:=hown.cells (g:=g) rfl
    have hr:=run_append_grow (P:=P) w t ty e i z ht hi hz ⟨g,0,none⟩ n cap xs hown.1 holds ad m c ys hl (hc ad rfl) (by omega) (by unfold maxLen at h63;omega) (growslice_fits (by omega) hbytes)
    rw [hrun] at hr
    injection hr with e1 e2
    subst e1
    subst e2
    exact .inr ⟨((Below.refl _ _).drew).alloc (c9c _) _,.inr rfl⟩
theorem a2T {w w':World} {b:Nat} (h:w'.heap[b]?=w.heap[b]?) (o:Nat):w'.cell? ⟨b,o,none⟩=w.cell? ⟨b,o,none⟩:=by simp only [World.cell?,h]
section
variable {I0:Nat→Nat→Prop} {X:Nat→Prop} {w0:W0} {I:Nat→Nat→Prop} {g:Nat→Value} {s:S} {a:Act} {w:World}
theorem b6c {w w':World} {base e sz n m:Nat} {v v':Value} {us vs:List Value} (h:w.ownsRow base e sz v n us) (h':w'.ownsRow base e sz v' (n+m) (us++vs)) {b:Nat} (hb:v.ownBlock=some b) (hb':v'.ownBlock=some b) {i:Nat} (hi:i<n * sz) :
  w'.cell? ⟨b,i,none⟩=w.cell? ⟨b,i,none⟩:=by
 have e1:∀ {w:World} {v:Value} {n:Nat} {us:List Value},w.ownsRow base e sz v n us→v.ownBlock=some b→∀i,i<n * sz→w.cell? ⟨b,i,none⟩=us[i]?:=fun {w v n us} h hb i hi=>by
  rcases h.2 with ⟨rfl,_⟩|⟨g,cap,cur,rfl,_⟩
  ·cases hb
  ·injection hb with hb
   subst hb
   exact World.ownsRow.cellAt h i hi
 rw [e1 h hb i hi,e1 h' hb' i (by rw [d1q];omega),c9l (by rw [h.1];exact hi)]
theorem a1S {w:World} {base e sz n:Nat} {v:Value} {us:List Value} (h:w.ownsRow base e sz v n us) {b:Nat}:gbl v b↔v.ownBlock=some b:=by
 rcases h.2 with ⟨rfl,_⟩|⟨g,cap,cur,rfl,_⟩
 ·exact ⟨fun h=>h.elim,fun h=>by cases h⟩
 ·exact ⟨fun h=>congrArg some h,fun h=>Option.some.inj h⟩
theorem a1E {w:World} {base e sz n:Nat} {v:Value} {us:List Value} (h:w.ownsRow base e sz v n us):gv v=v:=by
 rcases h.2 with ⟨rfl,_⟩|⟨g,cap,cur,rfl,_⟩ <;> rfl
theorem a1a {w:World} {base e sz n:Nat} {v:Value} {us:List Value} (h:w.ownsRow base e sz v n us):∃A cap,v=.slice A n cap:=by
 rcases h.2 with ⟨rfl,h0⟩|⟨g,cap,cur,rfl,_⟩
 ·subst h0;exact ⟨_,_,rfl⟩
 ·exact ⟨_,_,rfl⟩
theorem RelI.appended (h:RelI I0 X w0 I g s a w) {k e:Nat} {z:Bool} {xs ys:List (List D)} (hk:s.o[k]?=some (.row z e xs)) {us vs:List Value} (hown:w.ownsRow 0 e (ty e).sz (g k) xs.length us) (hys:∀r∈ys,r.length=(ty e).sz) (hvs:B0 I w vs ys.flatten)
  {v':Value} {w':World} (hown':w'.ownsRow 0 e (ty e).sz v' (xs.length+ys.length) (us++vs)) (hsp:(∃b,(g k).ownBlock=some b∧v'.ownBlock=some b∧w.grownBy w' (some b))∨(Below w.heap.size w w'∧(v'.ownBlock=none∨v'.ownBlock=some w.heap.size))) :
  ∃I' g',g' k=v'∧RelI I0 X w0 I' g' ⟨H3 k s.t,(B7 k s.o).set k (.row z e (xs++ys))⟩ a w':=by
 have hok:=h.obj k _ hk
 obtain ⟨us2,ho2,hr2,hd2,hb2⟩:=hok
 have hus:us2=us:=by
  have h1:=ho2.1
  have h2:=hown.1
  rcases ho2.2 with ⟨e1,e2⟩|⟨g1,cap,cur,e1,_,hh,_,_,_,ht⟩
  ·rw [e2,d0e] at h1 h2
   rw [c9t h1,c9t h2]
  ·rcases hown.2 with ⟨e3,e4⟩|⟨g2,cap2,cur2,e3,_,hh2,_,_,_,ht2⟩
   ·rw [e1] at e3;cases e3
   ·rw [e1] at e3
    injection e3 with e3 _ _
    injection e3 with e3
    injection e3 with e3
    subst e3
    rw [hh] at hh2
    injection hh2 with hh2
    injection hh2 with hh2
    subst hh2
    rw [←ht,←ht2]
 subst hus
 have hgk:∀ {b},gbl (g k) b↔(g k).ownBlock=some b:=a1S hown
 have hnp:W7 (g k)=true→upd g k v' k=g k:=fun e=>by obtain ⟨A,cap,e2⟩:=a1a hown;rw [e2] at e;cases e
 have hlk:M5 s k:=⟨_,hk,by simp⟩
 have hlt:k<s.o.length:=(c8S.1 hk).1
 have hI':∀b k',I b k'→(fun b k'=>I b k'∨(z=true∧v'.ownBlock=some b∧k'≤(xs.length+ys.length) * (ty e).sz)) b k':=fun b k' h=>.inl h
 have hlen:xs.length * (ty e).sz≤(xs.length+ys.length) * (ty e).sz:=c9C _ (by omega)
 have hsz:w.heap.size≤w'.heap.size:=by
  rcases hsp with ⟨_,_,_,h3⟩|⟨h3,_⟩
  ·exact h3.size
  ·exact h3.size
 have hother:∀b,b<w.heap.size→(g k).ownBlock≠some b→w'.heap[b]?=w.heap[b]?:=fun b hb hne=>by
  rcases hsp with ⟨c,h1,_,h3⟩|⟨h3,_⟩
  ·exact h3.block b hb (fun e=>hne (by rw [h1,←e]))
  ·exact h3.block b hb
 have hkp:y9 I w w':=fun b k' hbk i hi=>by
  have hb:=(h.lt b k' hbk).1
  by_cases hne:(g k).ownBlock=some b
  ·rcases hsp with ⟨c,h1,h2,h3⟩|⟨h3,_⟩
   ·rw [h1] at hne
    injection hne with hne
    subst hne
    exact b6c hown hown' h1 h2 (c9U hi ((hb2 c h1).2.1 _ hbk).2)
   ·exact a2T (h3.block b hb) i
  ·exact a2T (hother b hb hne) i
 have hnew:∀b,v'.ownBlock=some b→(g k).ownBlock=some b∨b=w.heap.size:=fun b hb=>by
  rcases hsp with ⟨c,h1,h2,_⟩|⟨_,h2|h2⟩
  ·rw [h2] at hb;injection hb with hb;subst hb;exact .inl h1
  ·rw [h2] at hb;cases hb
  ·rw [h2] at hb;injection hb with hb;exact .inr hb.symm
 have hlt':∀b,v'.ownBlock=some b→b<w'.heap.size:=fun b hb=>(hown'.lt b hb).2
 have hmine:∀b,v'.ownBlock=some b→a2o X w0 b:=fun b hb=>by
  rcases hnew b hb with h1|rfl
  ·exact (hb2 b h1).2.2
  ·exact .inl h.fr.size
 have hg':∀j,j≠k→upd g k v' j=g j:=fun j hj=>E0 hj
 refine ⟨fun b k'=>I b k'∨(z=true∧v'.ownBlock=some b∧k'≤(xs.length+ys.length) * (ty e).sz),upd g k v',n8 ..,?_⟩
 refine ⟨fun b k' hb=>.inl (h.im b k' hb),fun b k' hb=>?_,?_,h.kp.trans fun b k hbk i hi=>hkp b k (h.im b k hbk) i hi,by simpa [T9] using h.lo,fun j hj hr=>?_,fun j o hj=>?_,fun i j b hi hj hbi hbj=>?_,fun j hj=>?_,?_,h.dfr⟩
 ·rcases hb with hb|⟨_,hb,_⟩
  ·exact ⟨c9U (h.lt b k' hb).1 hsz,(h.lt b k' hb).2⟩
  ·refine ⟨hlt' b hb,fun hlt0=>?_⟩
   rcases hmine b hb with h1|h1
   ·omega
   ·exact .inr h1
 ·have hf:=h.fr
  have hos:w'.os=w.os∧w'.tape=w.tape∧w'.output=w.output:=by
   rcases hsp with ⟨_,_,_,h3⟩|⟨h3,_⟩
   ·exact ⟨h3.os,h3.tape,h3.output⟩
   ·exact ⟨h3.os,h3.tape,h3.output⟩
  refine ⟨hos.1.trans hf.os,hos.2.1.trans hf.tape,hos.2.2.trans hf.output,d0k hf.size hsz,fun b hb hX=>?_⟩
  rw [hother b (c9U hb hf.size) fun e=>?_]
  ·exact hf.block b hb hX
  ·rcases (hb2 b e).2.2 with h1|h1
   ·omega
   ·exact hX h1
 ·have e:=h.st j hj hr
  refine (hg' j fun ej=>?_).trans e
  subst ej
  rw [←e] at hr
  rcases hown.2 with ⟨e1,_⟩|⟨_,_,_,e1,_⟩ <;> rw [e1] at hr <;> cases hr
 ·by_cases hjk:k=j
  ·subst hjk
   simp only [c93 (show k<(B7 k s.o).length by rw [T9];exact hlt)] at hj
   injection hj with hj
   subst hj
   refine ⟨us2++vs,by rw [n8,c8U];exact hown',fun r hr=>?_,?_,fun b hb=>?_⟩
   ·rcases c99.1 hr with hr|hr
    ·exact hr2 r hr
    ·exact hys r hr
   ·rw [d0L]
    exact ((hd2.append hvs)).mono hI' hkp
   ·rw [n8] at hb
    rw [c8U]
    refine ⟨fun hz=>.inr ⟨hz,hb,c9c _⟩,fun k' hk'=>?_,hmine b hb⟩
    rcases hk' with hk'|⟨hz,_,hk'⟩
    ·rcases hnew b hb with h1|rfl
     ·have h2:=(hb2 b h1).2.1 _ hk'
      exact ⟨h2.1,d0k h2.2 hlen⟩
     ·exact absurd (h.lt _ _ hk').1 (by omega)
    ·exact ⟨hz,hk'⟩
  ·simp only [c9p hjk] at hj
   obtain ⟨o',ho',hdd,hsh⟩:=a0Z k s.o j o hj
   by_cases hd:o=.dead
   ·subst hd;exact True.intro
   have hob:=h.obj j o' ho'
   have hd':=hdd hd
   have hne:∀b,gbl (g j) b→(g k).ownBlock≠some b:=fun b hb e=>hjk (h.dis k j b hlk ⟨o',ho',hd'⟩ (hgk.2 e) hb)
   have hkeep:a0b X w0 (fun b k'=>I b k'∨(z=true∧v'.ownBlock=some b∧k'≤(xs.length+ys.length) * (ty e).sz)) w' g j o':=by
    refine hob.keep hI' hkp (fun b hb=>hother b (hob.blk hd' b hb).1 (hne b hb)) fun b hb k' hk'=>?_
    rcases hk' with hk'|⟨_,hk',_⟩
    ·exact hk'
    ·rcases hnew b hk' with h1|rfl
     ·exact absurd h1 (hne b hb)
     ·exact absurd (hob.blk hd' _ hb).1 (by omega)
   rcases hsh with ⟨cs,rfl,rfl⟩|⟨ks,rfl,rfl⟩|⟨rfl,hnb,hnf⟩
   ·obtain ⟨b,us,t,h1,h2,h3,h4⟩:=hkeep
    exact ⟨b,us,t,by rw [E0 (d1n hjk)];exact h1,h2,a2S hg' hnp h3,h4⟩
   ·obtain ⟨us,h1,h2,h3⟩:=hkeep
    refine ⟨us,by rw [E0 (d1n hjk)];exact h1,h2,fun i u hu=>?_⟩
    by_cases e:i=k
    ·exact .inr (.inr (by rw [e];exact c8V ..))
    ·rcases h3 i u hu with h4|h4|h4
     ·exact .inl h4
     ·exact .inr (.inl (by rw [E0 e];exact h4))
     ·exact .inr (.inr (c8X _ h4))
   ·cases o with
    | dead=>exact True.intro
    | box cs=>exact absurd rfl (hnb cs)
    | kl ks=>exact absurd rfl (hnf ks)
    | mp kt es =>
     obtain ⟨b,l,c,h1,h2⟩:=hkeep
     exact ⟨b,l,c,by rw [E0 (d1n hjk)];exact h1,h2⟩
    | ob T vs =>
     obtain ⟨b,h1,h2⟩:=hkeep
     exact ⟨b,by rw [E0 (d1n hjk)];exact h1,h2⟩
    | it P =>
     obtain ⟨A,n,cap,F,h1,h2⟩:=hkeep
     exact ⟨A,n,cap,F,by rw [E0 (d1n hjk)];exact h1,h2⟩
    | row z2 e2 rows =>
     obtain ⟨us,h1,h2,h3,h4⟩:=hkeep
     exact ⟨us,by rw [E0 (d1n hjk)];exact h1,h2,h3,by rw [E0 (d1n hjk)];exact h4⟩
 ·have live':∀j,M5 ⟨H3 k s.t,(B7 k s.o).set k (.row z e (xs++ys))⟩ j→M5 s j:=fun j hj=>by
   obtain ⟨o,ho,hd⟩:=hj
   by_cases hjk:k=j
   ·subst hjk;exact hlk
   ·simp only [c9p hjk] at ho
    obtain ⟨o',ho',hdd,_⟩:=a0Z k s.o j o ho
    exact ⟨o',ho',hdd hd⟩
  have hi':=live' i hi
  have hj':=live' j hj
  have hv'b:∀ {b},gbl v' b↔v'.ownBlock=some b:=a1S hown'
  have cross:∀j,j≠k→M5 s j→gbl (g j) b→¬gbl v' b:=fun j hjk hl hb e=>by
   have e:=hv'b.1 e
   rcases hnew b e with h1|rfl
   ·exact hjk (h.dis j k b hl hlk hb (hgk.2 h1))
   ·have:=h.blk_lt hl hb;omega
  by_cases hik:i=k <;> by_cases hjk:j=k
  ·rw [hik,hjk]
  ·subst hik
   rw [n8] at hbi
   rw [E0 hjk] at hbj
   exact absurd hbi (cross j hjk hj' hbj)
  ·subst hjk
   rw [n8] at hbj
   rw [E0 hik] at hbi
   exact absurd hbj (cross i hik hi' hbi)
  ·rw [E0 hik] at hbi
   rw [E0 hjk] at hbj
   exact h.dis i j b hi' hj' hbi hbj
 ·simp only [c9u,T9] at hj
  rw [E0 (by omega)]
  exact h.out j hj
 ·exact (a4G hg' hnp h.tmp).mono hI' hkp
end
end
section
theorem a2p {t:Nat} (h:f9 t=true):∃x z,Try.prog.info? t=some x∧x.size=(ty t).sz∧x.zero=some z∧z.cells=(ty t).zero.toArray∧(ty t).zero.length=(ty t).sz∧x.bytes≤1024:=by
 have hk:=a3M t h
 have hi:=hk.info
 have hb:=hk.bytes
 cases hx:Try.prog.info? t with
 | none=>rw [hx] at hi;cases hi
 | some x =>
  rw [hx] at hi hb
  simp only [d0b,Option.some.injEq,Prod.mk.injEq] at hi
  cases hz:x.zero with
  | none=>rw [hz] at hi;simp at hi
  | some z =>
   rw [hz] at hi
   simp only [d0b,Option.some.injEq] at hi
   refine ⟨x,z,rfl,hi.1,hz,hi.2,hk.len,?_⟩
   simpa using hb
theorem M2 {t:Nat} (h:f9 t=true) (w:World):(sizeOf t).run Try.prog w=.ok (ty t).sz w:=by
 obtain ⟨x,z,h1,h2,_⟩:=a2p h
 simp [sizeOf,typeInfo,h1,h2]
theorem a6O {t:Nat} (h:f9 t=true) (w:World):∃z,(zeroValue t).run Try.prog w=.ok z w∧z.cells=(ty t).zero.toArray:=by
 obtain ⟨x,z,h1,_,h3,h4,_⟩:=a2p h
 exact ⟨z,by simp [zeroValue,typeInfo,h1,h3],h4⟩
theorem b00 {t:Nat} (h:f9 t=true) (w:World):(isAgg t).run Try.prog w=.ok (ty t).agg w:=by
 have hk:=(a3M t h).agg
 cases hu:Try.prog.underlying t with
 | none=>rw [hu] at hk;cases hk
 | some d =>
  rw [hu] at hk
  have:=run_underlying hu w
  cases d <;> simp only [b19,Option.some.injEq] at hk <;> simp [isAgg,this,←hk]
theorem H5 {t e:Nat} (h:f9 t=true) (he:(ty t).elem=some e):Try.prog.underlying t=some (.slice e):=by
 have hk:=a3M t h
 have h1:=hk.elem
 have h2:=hk.under
 unfold a1i at h2
 cases hkind:(ty t).kind <;> rw [hkind] at h1 h2 <;> simp only [he,Option.isNone_some] at h1 h2 <;> first|exact h2.1|exact absurd h1 (by decide)
theorem a4g {t:Nat} (h:f9 t=true) (he:(ty t).kind=.str):Try.prog.underlying t=some .string:=by
 have h2:=(a3M t h).under
 unfold a1i at h2
 rw [he] at h2
 exact h2
theorem a5G {t:Nat} {k:IntKind} (h:f9 t=true) (he:(ty t).kind=.int k):Try.prog.underlying t=some (.int k):=by
 have h2:=(a3M t h).under
 unfold a1i at h2
 rw [he] at h2
 exact h2
theorem b3s {t:Nat} (h:f9 t=true) (he:(ty t).kind=.ptr):∃e,Try.prog.underlying t=some (.pointer e):=by
 have h2:=(a3M t h).under
 unfold a1i at h2
 rw [he] at h2
 obtain ⟨h3,h4⟩:=h2
 cases hv:(ty t).val with
 | none=>rw [hv] at h4;cases h4
 | some e=>rw [hv] at h3;exact ⟨e,h3⟩
theorem b41 {t:Nat} (h:f9 t=true) (he:(ty t).kind=.bool):Try.prog.underlying t=some .bool:=by
 have h2:=(a3M t h).under
 unfold a1i at h2
 rw [he] at h2
 exact h2
theorem a7t {t e:Nat} (h:f9 t=true) (he:(ty t).kind=.array) (hv:(ty t).val=some e):Try.prog.underlying t=some (.array (ty t).alen e):=by
 have h2:=(a3M t h).under
 unfold a1i at h2
 rw [he] at h2
 obtain ⟨h3,h4⟩:=h2
 rw [hv] at h3
 exact h3
theorem b8b {t k e:Nat} (h:f9 t=true) (he:(ty t).kind=.map) (hk:(ty t).key=some k) (hv:(ty t).val=some e):Try.prog.underlying t=some (.map k e):=by
 have h2:=(a3M t h).under
 unfold a1i at h2
 rw [he] at h2
 obtain ⟨h3,h4⟩:=h2
 rw [hk,hv] at h3
 exact h3
theorem a5H {t:Nat} (h:f9 t=true) (he:(ty t).kind=.struct):∃fs,Try.prog.underlying t=some (.struct fs)∧fs.toList.map (fun f=>(f.offset,(Try.prog.info? f.type).map (·.size)))=(ty t).flds.map (fun x=>(x.1,some x.2))∧fs.toList.map (·.type)=(ty t).fty:=by
 have h2:=(a3M t h).under
 unfold a1i at h2
 rw [he] at h2
 simp only at h2
 cases hu:Try.prog.underlying t with
 | none=>rw [hu] at h2;cases h2
 | some d =>
  rw [hu] at h2
  cases d <;> first|cases h2|skip
  rename_i fs
  simp only [b3k,Option.some.injEq,Prod.mk.injEq] at h2
  exact ⟨fs,rfl,h2.1,h2.2⟩
theorem b8c {t i off sz:Nat} (h:f9 t=true) (hf:(ty t).flds[i]?=some (off,sz)):∃fs f,Try.prog.underlying t=some (.struct fs)∧fs[i]?=some f∧f.offset=off∧(Try.prog.info? f.type).map (·.size)=some sz∧(ty t).fty[i]?=some f.type∧(ty t).kind=.struct:=by
 have hk:=a3M t h
 have hst:(ty t).kind=.struct:=by
  have h1:=hk.flds
  cases hkind:(ty t).kind <;> rw [hkind] at h1 <;> first|rfl|skip
  all_goals
   simp only [List.isEmpty_iff] at h1
   rw [h1] at hf
   simp at hf
 obtain ⟨fs,h1,h2,h3⟩:=a5H h hst
 have h4:=congrArg (·[i]?) h2
 simp only [c9v,hf,d0b] at h4
 cases hfi:fs.toList[i]? with
 | none=>rw [hfi] at h4;cases h4
 | some f =>
  rw [hfi] at h4
  simp only [d0b,Option.some.injEq,Prod.mk.injEq] at h4
  refine ⟨fs,f,h1,by rw [←c9D];exact hfi,h4.1,h4.2,?_,hst⟩
  rw [←h3,c9v,hfi]
  rfl
theorem a1T {α:Type} {n:Nat} {l:List α} {x:α} (h:J4 1 (L9 n l)=some [x]):l[n]?=some x:=by
 rw [a02] at h
 obtain ⟨h1,_⟩:=a03 h
 have:=congrArg (·[0]?) h1
 simp only [d0U,c91,Nat.zero_lt_one,d0V,c9x,d0g] at this
 exact this.symm
section
variable {I:Nat→Nat→Prop} {g:Nat→Value} {w:World}
theorem b01 {b:Bool} {l:List V} {x:V} {us:List Value} (hu:j8 I w g us l) (hp:a1P b l=some x):AtV I w g (if b=true then .agg us.toArray else us.getD 0 undef) x∧(b=false→us.length=1):=by
 cases b with
 | true =>
  rw [a1P] at hp
  injection hp with hp
  subst hp
  exact ⟨M7 hu,by simp⟩
 | false =>
  match l,hp with
  | [y],hp =>
   rw [a1P] at hp
   injection hp with hp
   subst hp
   obtain ⟨u,us',rfl,h1,h2⟩:=hu.uncons
   rw [h2.unnil]
   exact ⟨h1,fun _=>rfl⟩
theorem b02 {t b p:Nat} (ht:f9 t=true) {us:List Value} {l:List V} {x:V} (hl:us.length=(ty t).sz) (hc:∀j u,us[j]?=some u→w.cell? ⟨b,p+j,none⟩=some u) (hu:j8 I w g us l) (hp:a1P (ty t).agg l=some x) :
  ∃v,(Instr.loadAt t (.pointer (some ⟨b,p,none⟩))).run Try.prog w=.ok v w∧AtV I w g v x:=by
 obtain ⟨hx,h1⟩:=b01 hu hp
 refine ⟨_,?_,hx⟩
 simp only [Instr.loadAt,Instr.sureAddr,loadVar,Sem.run_bind,Sem.run_pure,Result.andThen_ok,b00 ht]
 cases ha:(ty t).agg with
 | true =>
  simp only [d0V,Sem.run_bind,M2 ht,Result.andThen_ok,Sem.run_pure]
  rw [←hl,run_loadCells_list (P:=Try.prog) w ⟨b,p,none⟩ us (fun j v hv=>by rw [Addr.add_lit];exact hc j v hv)]
  rfl
 | false =>
  have h2:=h1 ha
  match us,h2 with
  | [u],_ =>
   have h3:=hc 0 u rfl
   simp only [d0g] at h3
   simp [h3]
end
end
section
def a4h (I:Nat→Nat→Prop) (w:World):List Value→List R→Prop
 | [],[]=>True
 | v::vs,r::rs=>AtR I w v r∧a4h I w vs rs
 | _,_=>False
def a2C (I:Nat→Nat→Prop) (w:World) (v:Value):List R→Prop
 | [r]=>AtR I w v r
 | rs=>∃us,v=.tuple us.toArray∧a4h I w us rs
def nxt (I:Nat→Nat→Prop) (w w':World) (b h:Nat):Prop:=I b h∨(w.heap.size≤b∧b<w'.heap.size)
def a2q (P:Program) (f:Nat):Bool:=match P.funcs[f]? with|some fn=>fn.name != "runtime.NumGoroutine" && fn.body.isSome|none=>false
def A0 (f:Nat) (rs q:List R):Prop:=a2q Try.prog f=true∧∀(I:Nat→Nat→Prop) (w:World) (args:List Value),Wld I w→a4h I w args rs →
 Calls Try.prog f args.toArray w fun e w'=>∃v,e=.returned v∧a2C (nxt I w w') w' v q∧Below w.heap.size w w'
theorem a4h.mono {I I':Nat→Nat→Prop} {w w':World} (hI:∀b h,I b h→I' b h) (hk:y9 I w w'):∀ {vs:List Value} {rs:List R},a4h I w vs rs→a4h I' w' vs rs
 | [],[],_=>trivial
 | _::_,_::_,h=>⟨h.1.mono hI hk,h.2.mono hI hk⟩
 | [],_::_,h=>h.elim
 | _::_,[],h=>h.elim
theorem a4h.len {I:Nat→Nat→Prop} {w:World}:∀ {vs:List Value} {rs:List R},a4h I w vs rs→vs.length=rs.length
 | [],[],_=>rfl
 | _::_,_::_,h=>by simp [h.2.len]
 | [],_::_,h=>h.elim
 | _::_,[],h=>h.elim
theorem a6P {I:Nat→Nat→Prop} {w:World} (g:Nat→Value) {v:Value} {r:R} (h:AtR I w v r):AtV I w g v (b7K r):=by
 cases r with
 | one x=>exact .d h
 | ag xs=>obtain ⟨us,rfl,h2⟩:=h;exact M7 (h2.toV g)
theorem a4H {I:Nat→Nat→Prop} {w:World} (g:Nat→Value):∀ {vs:List Value} {rs:List R},a4h I w vs rs→j8 I w g vs (b1A rs)
 | [],[],_=>.nil I w g
 | _::_,_::_,h=>.cons (a6P g h.1) (a4H g h.2)
 | [],_::_,h=>h.elim
 | _::_,[],h=>h.elim
theorem b42 {I:Nat→Nat→Prop} {w:World} (g:Nat→Value) {v:Value} {rs:List R} (h:a2C I w v rs):AtV I w g v (b5Z rs):=by
 match rs,h with
 | [],h=>obtain ⟨us,rfl,h2⟩:=h;exact a1D (a4H g h2)
 | [r],h=>exact a6P g h
 | r::r'::rs,h=>obtain ⟨us,rfl,h2⟩:=h;exact a1D (a4H g h2)
section
variable {I0:Nat→Nat→Prop} {X:Nat→Prop} {w0:W0} {I:Nat→Nat→Prop} {g:Nat→Value} {s:S} {a:Act} {w:World}
theorem a7u (h:RelI I0 X w0 I g s a w) {v:Value} {x:V} {d:D} (hv:AtV I w g v x) (hd:toD s.o x=some d):AtD I w v d:=by
 cases x with
 | d x=>rw [toD] at hd;injection hd with hd;subst hd;cases hv with|d h=>exact h
 | em=>rw [toD] at hd;injection hd with hd;subst hd;cases hv;exact .nil _ _ _
 | own k =>
  rw [toD] at hd
  split at hd
  ·rename_i e rows ho
   injection hd with hd
   subst hd
   have hk:=A6 ho (by simp)
   obtain ⟨us,h1,h2,h3,h4⟩:=h.obj k _ hk
   cases hv with
   | own k A n cap hg =>
    rw [a1E h1] at hg
    rcases h1.2 with ⟨e1,e2⟩|⟨g1,cap1,cur,e1,_,hh,hnc,_⟩
    ·rw [hg] at e1
     injection e1 with e1 e3 e4
     subst e1;subst e3;subst e4
     rw [c9t e2]
     exact .nil _ _ _
    ·rw [hg] at e1
     injection e1 with e1 e3 e4
     subst e1;subst e3;subst e4
     refine .sl g1 0 cap _ rows us hnc ?_ h2 h1.1 (fun i u hu=>?_) h3.2
     ·rw [c9L];exact ⟨_,c9c _,(h4 g1 (by rw [hg];rfl)).1 rfl⟩
     ·rw [c9L]
      have hlt:i<rows.length * (ty e).sz:=by rw [←h1.1];exact (c8S.1 hu).1
      rw [hg] at h1
      rw [World.ownsRow.cellAt h1 i hlt,hu]
  ·cases hd
 | ag cs=>rw [toD] at hd <;> first|cases hd|simp
 | tu cs=>rw [toD] at hd <;> first|cases hd|simp
 | ptr k off=>rw [toD] at hd <;> first|cases hd|simp
 | cl f ks =>
  cases ks with
  | nil =>
   rw [toD] at hd
   injection hd with hd
   subst hd
   cases hv with
   | cl f us ks hl h =>
    rw [c9t hl]
    exact .sc _ rfl
  | cons k ks=>rw [toD] at hd <;> first|cases hd|simp
 | el k i sz off=>rw [toD] at hd <;> first|cases hd|simp
 | ro cs off=>rw [toD] at hd <;> first|cases hd|simp
 | mp k=>rw [toD] at hd <;> first|cases hd|simp
 | bs k n=>rw [toD] at hd <;> first|cases hd|simp
 | jk=>rw [toD] at hd <;> first|cases hd|simp
theorem a4I (h:RelI I0 X w0 I g s a w):∀ {xs:List V} {vs:List Value} {ds:List D},j8 I w g vs xs→a4f s.o xs=some ds→B0 I w vs ds
 | [],vs,ds,hv,hd=>by
  rw [a4f] at hd
  injection hd with hd
  subst hd
  rw [hv.unnil]
  exact .nil I w
 | x::xs,vs,ds,hv,hd=>by
  obtain ⟨u,us,rfl,h1,h2⟩:=hv.uncons
  rw [a4f] at hd
  split at hd
  ·rename_i y hy
   split at hd
   ·rename_i ys hys
    injection hd with hd
    subst hd
    exact .cons (a7u h h1 hy) (a4I h h2 hys)
   ·cases hd
  ·cases hd
theorem a5I (h:RelI I0 X w0 I g s a w) {v:Value} {x:V} {r:R} (hv:AtV I w g v x) (hr:toR s.o x=some r):AtR I w v r:=by
 by_cases hx:∃l,x=.ag l
 ·obtain ⟨l,rfl⟩:=hx
  rw [toR] at hr
  split at hr
  ·rename_i ys hys
   injection hr with hr
   subst hr
   obtain ⟨us,rfl,h2⟩:=hv.unag
   exact ⟨us,rfl,a4I h h2 hys⟩
  ·cases hr
 ·rw [toR] at hr
  ·split at hr
   ·rename_i y hy
    injection hr with hr
    subst hr
    exact a7u h hv hy
   ·cases hr
  ·exact fun l e=>hx ⟨l,e⟩
theorem b03 (h:RelI I0 X w0 I g s a w):∀ {xs:List V} {vs:List Value} {rs:List R},j8 I w g vs xs→a9d s.o xs=some rs→a4h I w vs rs
 | [],vs,rs,hv,hd=>by
  rw [a9d] at hd
  injection hd with hd
  subst hd
  rw [hv.unnil]
  trivial
 | x::xs,vs,rs,hv,hd=>by
  obtain ⟨u,us,rfl,h1,h2⟩:=hv.uncons
  rw [a9d] at hd
  split at hd
  ·rename_i y hy
   split at hd
   ·rename_i ys hys
    injection hd with hd
    subst hd
    exact ⟨a5I h h1 hy,b03 h h2 hys⟩
   ·cases hd
  ·cases hd
end
def a6u:List V→List V→Prop
 | [],[]=>True
 | _::l,.jk::m=>a6u l m
 | x::l,y::m=>x=y∧a6u l m
 | _,_=>False
def b6d:List Nat→List Nat→Bool
 | [],_=>true
 | k::l,m=>match a9f k m with|true=>b6d l m|false=>false
def a3S:List O→List O→Prop
 | _,[]=>True
 | .box cs::l,.box ds::m=>a6u cs ds∧a3S l m
 | .row z e r::l,.row z' e' r'::m=>(z=z'∧e=e'∧r=r')∧a3S l m
 | .mp k es::l,.mp k' es'::m=>(k=k'∧es=es')∧a3S l m
 | .kl ks::l,.kl ks'::m=>b6d ks ks'=true∧a3S l m
 | .it P::l,.it P'::m=>P=P'∧a3S l m
 | .ob T vs::l,.ob T' vs'::m=>(T=T'∧vs=vs')∧a3S l m
 | _::l,.dead::m=>a3S l m
 | _,_=>False
def b6e (n:Nat):List Nat→Bool
 | []=>true
 | k::l=>match Nat.blt k n with|true=>b6e n l|false=>false
def a2H (n:Nat):V→Bool
 | .own k=>Nat.blt k n
 | .ptr k _=>Nat.blt k n
 | .cl _ ks=>b6e n ks
 | .el k _ _ _=>Nat.blt k n
 | .mp k=>Nat.blt k n
 | .bs k _=>Nat.blt k n
 | .ag _=>false
 | .tu _=>false
 | _=>true
def a7v (n:Nat):List V→Bool
 | []=>true
 | x::l=>match a2H n x with|true=>a7v n l|false=>false
def c4e (n:Nat):V→Bool
 | .ag cs=>a7v n cs
 | .tu []=>true
 | .tu _=>false
 | x=>a2H n x
def a9g (n:Nat):List V→Bool
 | []=>true
 | x::l=>match c4e n x with|true=>a9g n l|false=>false
def a1U (n:Nat):List O→Bool
 | []=>true
 | .box cs::l=>match a7v n cs with|true=>a1U n l|false=>false
 | _::l=>a1U n l
def weak (s s':S):Prop:=a6u s.t s'.t∧a3S s.o s'.o∧a9g (m7 s'.o) s'.t=true∧a1U (m7 s'.o) s'.o=true
theorem b04 {n:Nat}:∀ {ks:List Nat} {i k:Nat},b6e n ks=true→ks[i]?=some k→k<n
 | [],i,k,_,hk=>by simp at hk
 | x::ks,i,k,h,hk=>by
  rw [b6e] at h
  split at h
  ·rename_i hx
   cases i with
   | zero=>simp at hk;subst hk;simpa [d0d] using hx
   | succ i=>exact b04 h (by simpa using hk)
  ·cases h
theorem a4J {n:Nat}:∀ {l:List O} {k:Nat} {cs:List V},a1U n l=true→l[k]?=some (.box cs)→a7v n cs=true
 | [],k,cs,_,h=>by simp at h
 | x::l,k,cs,hl,h=>by
  cases k with
  | zero =>
   simp at h
   subst h
   rw [a1U] at hl
   split at hl
   ·assumption
   ·cases hl
  | succ k =>
   refine a4J (l:=l) (k:=k) ?_ (by simpa using h)
   cases x with
   | box ds =>
    rw [a1U] at hl
    split at hl
    ·exact hl
    ·cases hl
   | row z e r=>exact hl
   | mp kt es=>exact hl
   | kl ks=>exact hl
   | it P=>exact hl
   | ob T vs=>exact hl
   | dead=>exact hl
def a5J (t:Nat):Bool:=match (ty t).elem with|some e=>f9 e|none=>true
def b1L (t:Nat):Bool:=match (ty t).kind with
 | .array=>match (ty t).val with|some e=>f9 e|none=>true
 | _=>true
def c4f (t:Nat):Bool:=match (ty t).kind with|.ptr=>f9 t|.bool=>f9 t|.slice=>f9 t && (ty t).elem.isSome|.struct=>f9 t && (ty t).fty.all f9|_=>true
def a7w (t:Nat):Bool:=match (ty t).key,(ty t).val with
 | some k,some e=>f9 k && f9 e && (ty k).fty.all f9
 | _,_=>false
def a2U (t:Nat):Bool:=match (ty t).elem with
 | some e=>f9 e && (match (ty e).kind with|.int k=>keq k .u8|_=>false)
 | none=>false
def a5K (t u:Nat):Bool:=(a2l (a0z (ty t).kind) || a2l (b1C (ty u).kind) || a2U t) && (a2l (b1C (ty t).kind) || a2l (a0z (ty u).kind) || a2U u)
def a05 (P:Program):Op→Bool
 | .load t _=>f9 t
 | .store t _ _=>f9 t
 | .fieldAddr t _ _=>f9 t
 | .field t _ _=>f9 t && (ty t).fty.all f9
 | .indexAddr t _ _=>(f9 t && a5J t) && b1L t
 | .index t _ _=>f9 t && b1L t
 | .binOp _ t _ _ _=>c4f t
 | .lookup t _ _ _=>f9 t && a7w t
 | .mapUpdate t _ _ _=>f9 t && a7w t
 | .convert t u _=>f9 t && f9 u && a5K t u
 | .build t _=>f9 t && b1L t
 | .buildSlice t n _=>(f9 t && Nat.ble n 16777216) && match (ty t).elem with|some e=>f9 e && Nat.ble (n * (ty e).sz) 16777216|none=>true
 | .slice t _ _ _ _=>f9 t && a5J t
 | .makeSlice t _ _=>f9 t && a5J t
 | .alloc e=>f9 e
 | .box e _=>f9 e
 | .call ⟨.builtin .len,_,⟨[t]⟩⟩=>f9 t
 | .call ⟨.builtin .append,_,⟨[t,u]⟩⟩=>f9 t && a5J t && L7 t u && match (ty t).elem with|some e=>Nat.blt 0 (ty e).sz|none=>true
 | .call ⟨.value (.func f),_,_⟩=>a2q P f
 | .defer _=>false
 | _=>true
end
section
def Xof (g:Nat→Value) (os:List O) (b:Nat):Prop:=∃k o,os[k]?=some o∧o≠.dead∧gbl (g k) b
def pkg:List Value→Value
 | [v]=>v
 | vs=>.tuple vs.toArray
def n7 (f:Nat) (vs:List V) (os:List O) (Q:List V→List O→Prop):Prop:=a2q Try.prog f=true∧∀(I:Nat→Nat→Prop) (w:World) (g:Nat→Value) (args:List Value),
 RelI I (Xof g os) ⟨w,g,os.length,[]⟩ I g ⟨vs,os⟩ { tmps:=args.toArray,defers:=[] } w →
 Calls Try.prog f args.toArray w fun e w'=>∃us res os2 I' g',e=.returned (pkg us)∧Q res os2∧RelI I (Xof g os) ⟨w,g,os.length,[]⟩ I' g' ⟨res,os2⟩ { tmps:=us.toArray,defers:=[] } w'
section
variable {I0:Nat→Nat→Prop} {X:Nat→Prop} {w0:W0} {I:Nat→Nat→Prop} {g:Nat→Value} {s:S} {a:Act} {w:World}
theorem a7x:∀ {ks:List Nat} {n j:Nat},j<ks.length→ks[j]?=some (upN ks n j)
 | [],n,j,h=>by simp at h
 | k::ks,n,0,_=>rfl
 | k::ks,n,j+1,h=>by rw [upN];simpa using a7x (n:=n) (by simpa using h)
theorem b3t:∀ {ks:List Nat} {n j:Nat},ks.length≤j→upN ks n j=n+(j - ks.length)
 | [],n,j,h=>by rw [upN];simp
 | k::ks,n,0,h=>by simp at h
 | k::ks,n,j+1,h=>by rw [upN,b3t (by simpa using h)];simp
theorem b05 {ks:List Nat} {n:Nat}:∀(l:List Nat) (i:Nat),(upK ks n l)[i]?=(l[i]?).map (upN ks n)
 | [],i=>by simp [upK]
 | j::l,0=>by simp [upK]
 | j::l,i+1=>by simpa [upK] using b05 l i
theorem b06 {ks:List Nat} {n:Nat}:∀l:List Nat,(upK ks n l).length=l.length
 | []=>rfl
 | j::l=>by simp [upK,b06 l]
theorem a3T {g1:Nat→Value} {ks:List Nat} {n m:Nat} (hg:∀j,j<m→g1 j=g (upN ks n j)) {v:Value} {x:V} (h:AtV I w g v (up1 ks n x)) (hl:a2H m x=true):AtV I w g1 v x:=by
 cases x with
 | d x=>exact (by cases h with|d h=>exact .d h)
 | ag cs=>cases hl
 | tu cs=>cases hl
 | em=>cases h;exact .em
 | own j =>
  cases h with
  | own k A n cap h=>exact .own j A n cap ((congrArg gv (hg j (by simpa [a2H,d0d] using hl))).trans h)
 | ptr j off =>
  cases h with
  | ptr k off b h=>exact .ptr j off b ((hg j (by simpa [a2H,d0d] using hl)).trans h)
 | cl f l =>
  cases h with
  | cl f us ks' hlen h =>
   rw [a2H] at hl
   refine .cl f us l (by rw [hlen,b06]) fun i u k hu hk=>?_
   have h1:=h i u (upN ks n k) hu (by rw [b05,hk];rfl)
   have h2:=hg k (b04 hl hk)
   rw [h2]
   exact h1
 | el j i sz off =>
  cases h with
  | el k i sz off b n cap h=>exact .el j i sz off b n cap ((hg j (by simpa [a2H,d0d] using hl)).trans h)
 | ro cs off=>cases h with|ro b o off us cs hi hc hd=>exact .ro b o off us cs hi hc hd
 | mp j =>
  cases h with
  | mp k b h=>exact .mp j b ((hg j (by simpa [a2H,d0d] using hl)).trans h)
 | bs j m' =>
  cases h with
  | bs k n' b cap h hn=>exact .bs j m' b cap ((hg j (by simpa [a2H,d0d] using hl)).trans h) hn
 | jk=>exact .jk _
theorem b43 {g1:Nat→Value} {ks:List Nat} {n m:Nat} (hg:∀j,j<m→g1 j=g (upN ks n j)):∀ {cs:List V} {us:List Value},j8 I w g us (upL ks n cs)→a7v m cs=true→j8 I w g1 us cs
 | [],us,h,_=>by rw [upL] at h;rw [h.unnil];exact .nil I w g1
 | c::cs,us,h,hl=>by
  rw [upL] at h
  obtain ⟨u,us',rfl,h1,h2⟩:=h.uncons
  rw [a7v] at hl
  split at hl
  ·rename_i hc;exact .cons (a3T hg h1 hc) (b43 hg h2 hl)
  ·cases hl
theorem b8d {g1:Nat→Value} {ks:List Nat} {n m:Nat} (hg:∀j,j<m→g1 j=g (upN ks n j)):∀ {cs:List V} {us:List Value},j8 I w g us (upT ks n cs)→a9g m cs=true→j8 I w g1 us cs
 | [],us,h,_=>by rw [upT] at h;rw [h.unnil];exact .nil I w g1
 | c::cs,us,h,hl=>by
  rw [upT] at h
  obtain ⟨u,us',rfl,h1,h2⟩:=h.uncons
  rw [a9g] at hl
  split at hl
  ·rename_i hc
   refine .cons ?_ (b8d hg h2 hl)
   cases c with
   | ag l=>obtain ⟨vs,rfl,h3⟩:=AtV.unag h1;exact M7 (b43 hg h3 hc)
   | tu l =>
    cases l with
    | nil =>
     obtain ⟨vs,rfl,h3⟩:=AtV.untu h1
     rw [h3.unnil]
     exact a1D (.nil I w g1)
    | cons c l=>cases hc
   | d x=>exact a3T hg h1 hc
   | em=>exact a3T hg h1 hc
   | own k=>exact a3T hg h1 hc
   | ptr k off=>exact a3T hg h1 hc
   | cl f l=>exact a3T hg h1 hc
   | el k i sz off=>exact a3T hg h1 hc
   | ro l off=>exact a3T hg h1 hc
   | mp k=>exact a3T hg h1 hc
   | bs k n=>exact a3T hg h1 hc
   | jk=>exact .jk _
  ·cases hl
theorem b8e {g1:Nat→Value} {ks:List Nat} {n:Nat} (hg:∀j,g1 j≠.nilFunc→g (upN ks n j)=g1 j) {v:Value} {x:V} (h:AtV I w g1 v x):AtV I w g v (up1 ks n x):=by
 cases h with
 | d h=>exact .d h
 | ag=>exact .jk _
 | tu=>exact .jk _
 | em=>exact .em
 | own j A m cap h=>exact .own _ A m cap ((congrArg gv (hg j (by intro e;rw [e] at h;cases h))).trans h)
 | ptr j off b h=>exact .ptr _ off b ((hg j (by rw [h];simp)).trans h)
 | cl f us l hl h =>
  refine .cl f us _ (by rw [b06];exact hl) fun i u k hu hk=>?_
  rw [b05] at hk
  obtain ⟨j,hj,rfl⟩:=c9Z.1 hk
  obtain ⟨h1,b,h2⟩:=h i u j hu hj
  have h3:=hg j (by rw [h2];simp)
  exact ⟨h1.trans h3.symm,b,h3.trans h2⟩
 | el j i sz off b m cap h=>exact .el _ i sz off b m cap ((hg j (by rw [h];simp)).trans h)
 | ro b o off us cs hi hc hd=>exact .ro b o off us cs hi hc hd
 | mp j b h=>exact .mp _ b ((hg j (by rw [h];simp)).trans h)
 | bs j m' b cap h hn=>exact .bs _ m' b cap ((hg j (by rw [h];simp)).trans h) hn
 | jk v=>exact .jk v
theorem b8f {g1:Nat→Value} {ks:List Nat} {n:Nat} (hg:∀j,g1 j≠.nilFunc→g (upN ks n j)=g1 j):∀ {cs:List V} {us:List Value},j8 I w g1 us cs→j8 I w g us (upL ks n cs)
 | [],us,h=>by rw [h.unnil];exact .nil I w g
 | c::cs,us,h=>by
  obtain ⟨u,us',rfl,h1,h2⟩:=h.uncons
  exact .cons (b8e hg h1) (b8f hg h2)
theorem c5U {g1:Nat→Value} {ks:List Nat} {n:Nat} (hg:∀j,g1 j≠.nilFunc→g (upN ks n j)=g1 j) {v:Value} {x:V} (h:AtV I w g1 v x):AtV I w g v (up2 ks n x):=by
 cases x with
 | ag l=>obtain ⟨vs,rfl,h3⟩:=AtV.unag h;exact M7 (b8f hg h3)
 | tu l =>
  cases l with
  | nil =>
   obtain ⟨vs,rfl,h3⟩:=AtV.untu h
   rw [h3.unnil]
   exact a1D (.nil I w g)
  | cons c l=>exact b8e hg h
 | _=>exact b8e hg h
theorem c3x {g1:Nat→Value} {ks:List Nat} {n:Nat} (hg:∀j,g1 j≠.nilFunc→g (upN ks n j)=g1 j):∀ {cs:List V} {us:List Value},j8 I w g1 us cs→j8 I w g us (upT ks n cs)
 | [],us,h=>by rw [h.unnil];exact .nil I w g
 | c::cs,us,h=>by
  obtain ⟨u,us',rfl,h1,h2⟩:=h.uncons
  exact .cons (c5U hg h1) (c3x hg h2)
theorem b8g:∀ {vs:List V} {us:List Value},j8 I w g us vs→AtV I w g (pkg us) (Z8 vs)
 | [],us,h=>by rw [h.unnil];exact a1D (.nil I w g)
 | [v],us,h=>by
  obtain ⟨u,us',rfl,h1,h2⟩:=h.uncons
  rw [h2.unnil]
  exact h1
 | v::v'::vs,us,h=>by
  obtain ⟨u,us',rfl,h1,h2⟩:=h.uncons
  obtain ⟨u',us'',rfl,h3,h4⟩:=h2.uncons
  exact a1D h
def b07:List Nat→List V→List V
 | [],t=>t
 | k::ks,t=>b07 ks (A3 k t)
theorem a9u {g2:Nat→Value}:∀(ks:List Nat) (g:Nat→Value) {cs:List V} {us:List Value},(∀j,j∉ks→g2 j=g j)→(∀j,W7 (g j)=true→g2 j=g j)→j8 I w g us cs→j8 I w g2 us (b07 ks cs)
 | [],g,cs,us,hg,hp,h=>by
  have:g2=g:=funext fun j=>hg j (by simp)
  subst this
  exact h
 | k::ks,g,cs,us,hg,hp,h=>by
  refine a9u ks (upd g k (g2 k)) (fun j hj=>?_) (fun j hb=>?_) (a2S (k:=k) (fun j hj=>E0 hj) (fun ha=>by rw [n8];exact hp k ha) h)
  ·by_cases e:j=k
   ·subst e;rw [n8]
   ·rw [E0 e];exact hg j (by simp [e,hj])
  ·by_cases e:j=k
   ·subst e;rw [n8]
   ·rw [E0 e] at hb ⊢;exact hp j hb
theorem a5L {g2:Nat→Value}:∀(ks:List Nat) (g:Nat→Value) {cs:List V} {us:List Value},(∀j,j∉ks→g2 j=g j)→(∀j,W7 (g j)=true→g2 j=g j)→j8 I w g us cs→j8 I w g2 us (A2 ks cs)
 | [],g,cs,us,hg,hp,h=>by
  have:g2=g:=funext fun j=>hg j (by simp)
  subst this
  exact h
 | k::ks,g,cs,us,hg,hp,h=>by
  refine a5L ks (upd g k (g2 k)) (fun j hj=>?_) (fun j hb=>?_) (a4G (k:=k) (fun j hj=>E0 hj) (fun ha=>by rw [n8];exact hp k ha) h)
  ·by_cases e:j=k
   ·subst e;rw [n8]
   ·rw [E0 e];exact hg j (by simp [e,hj])
  ·by_cases e:j=k
   ·subst e;rw [n8]
   ·rw [E0 e] at hb ⊢;exact hp j hb
def a7y:List Nat→List Nat→List Nat
 | [],l=>l
 | k::ks,l=>a7y ks (k::l)
theorem a4i:∀ {ks l:List Nat} {j:Nat},j∈ks∨j∈l→j∈a7y ks l
 | [],l,j,h=>h.resolve_left (by simp)
 | k::ks,l,j,h=>by
  rw [a7y]
  refine a4i ?_
  rcases h with h|h
  ·rcases c9e.1 h with rfl|h
   ·exact .inr (c8V ..)
   ·exact .inl h
  ·exact .inr (c8X _ h)
theorem a4j:∀(ks:List Nat) (l:List O) (j:Nat) (o:O),(T0 ks l)[j]?=some o→∃o',l[j]?=some o'∧(o≠.dead→o'≠.dead)∧((∃cs,o'=.box cs∧o=.box (b07 ks cs))∨(∃js,o'=.kl js∧o=.kl (a7y ks js))∨(o=o'∧(∀cs,o≠.box cs)∧∀js,o≠.kl js))
 | [],l,j,o,h=>⟨o,h,fun h=>h,by
  cases o with
  | box cs=>exact .inl ⟨cs,rfl,rfl⟩
  | kl js=>exact .inr (.inl ⟨js,rfl,rfl⟩)
  | row z e r=>exact .inr (.inr ⟨rfl,by simp,by simp⟩)
  | mp kt es=>exact .inr (.inr ⟨rfl,by simp,by simp⟩)
  | it P=>exact .inr (.inr ⟨rfl,by simp,by simp⟩)
  | ob T vs=>exact .inr (.inr ⟨rfl,by simp,by simp⟩)
  | dead=>exact .inr (.inr ⟨rfl,by simp,by simp⟩)⟩
 | k::ks,l,j,o,h=>by
  obtain ⟨o1,h1,h2,h3⟩:=a4j ks (B7 k l) j o h
  obtain ⟨o2,h4,h5,h6⟩:=a0Z k l j o1 h1
  refine ⟨o2,h4,fun hd=>h5 (h2 hd),?_⟩
  rcases h3 with ⟨cs,rfl,rfl⟩|⟨cs,rfl,rfl⟩|⟨rfl,hb,hf⟩
  ·rcases h6 with ⟨cs',rfl,e⟩|⟨cs',rfl,e⟩|⟨rfl,hb,_⟩
   ·injection e with e
    subst e
    exact .inl ⟨cs',rfl,rfl⟩
   ·cases e
   ·exact absurd rfl (hb cs)
  ·rcases h6 with ⟨cs',rfl,e⟩|⟨cs',rfl,e⟩|⟨rfl,_,hb⟩
   ·cases e
   ·injection e with e
    subst e
    exact .inr (.inl ⟨cs',rfl,rfl⟩)
   ·exact absurd rfl (hb cs)
  ·rcases h6 with ⟨cs',rfl,e⟩|⟨cs',rfl,e⟩|⟨rfl,_,_⟩
   ·exact absurd e (hb _)
   ·exact absurd e (hf _)
   ·exact .inr (.inr ⟨rfl,hb,hf⟩)
theorem K4:∀(ks:List Nat) (l:List O),(T0 ks l).length=l.length
 | [],l=>rfl
 | k::ks,l=>by rw [T0,K4 ks,T9]
theorem a6Q:∀l m:List O,c1i l m=l++m
 | [],m=>rfl
 | x::l,m=>by rw [c1i,a6Q l m];rfl
theorem a1l:∀ {ks:List Nat} {os l:List O},ks.Nodup→(∀k∈ks,k<l.length)→ks.length≤os.length→∀ {i k:Nat},ks[i]?=some k→(E7 ks os l)[k]?=os[i]?
 | [],os,l,_,_,_,i,k,h=>by simp at h
 | k0::ks,[],l,_,_,hl,i,k,h=>by simp at hl
 | k0::ks,x::os,l,hn,hk,hl,i,k,h=>by
  rw [E7,G7]
  obtain ⟨hn1,hn2⟩:=d08.1 hn
  have hk':∀k∈ks,k<(l.set k0 x).length:=fun k hm=>by rw [c9u];exact hk k (c8X _ hm)
  cases i with
  | zero =>
   simp at h
   subst h
   rw [backO_out hk' (by simpa using hl) hn1 (by rw [c9u];exact hk _ (c8V ..)),c93 (hk _ (c8V ..))]
   rfl
  | succ i =>
   rw [a1l hn2 hk' (by simpa using hl) (i:=i) (by simpa using h)]
   simp
where
 backO_out:∀ {ks:List Nat} {os l:List O},(∀k∈ks,k<l.length)→ks.length≤os.length→∀ {k:Nat},k∉ks→k<l.length→(E7 ks os l)[k]?=l[k]?
  | [],os,l,_,_,k,_,hlt=>by
   rw [E7,a6Q,c9l hlt]
   simp
  | k0::ks,[],l,_,hl,k,_,_=>by simp at hl
  | k0::ks,x::os,l,hk,hl,k,hn,hlt=>by
   rw [E7,G7,backO_out (fun k hm=>by rw [c9u];exact hk k (c8X _ hm)) (by simpa using hl) (fun hm=>hn (c8X _ hm)) (by rw [c9u];exact hlt),c9p fun e=>hn (by rw [←e];exact c8V ..)]
theorem a31:∀ {ks:List Nat} {os l:List O},ks.length≤os.length→∀d,(E7 ks os l)[l.length+d]?=os[ks.length+d]?
 | [],os,l,_,d=>by
  rw [E7,a6Q,c9b (Nat.le_add_right _ _)]
  ·simp
  ·simp
 | k0::ks,[],l,hl,d=>by simp at hl
 | k0::ks,x::os,l,hl,d=>by
  rw [E7,G7]
  have:=a31 (ks:=ks) (os:=os) (l:=l.set k0 x) (by simpa using hl) d
  rw [c9u] at this
  rw [this,c9a,Nat.add_right_comm]
  simp
theorem a5M:∀ {ks:List Nat} {os l:List O},ks.length≤os.length→(E7 ks os l).length=l.length+(os.length - ks.length)
 | [],os,l,_=>by
  rw [E7,a6Q]
  ·simp
  ·simp
 | k0::ks,[],l,hl=>by simp at hl
 | k0::ks,x::os,l,hl=>by
  rw [E7,G7,a5M (by simpa using hl),c9u]
  simp
theorem a2W {ks:List Nat} {n:Nat}:∀(l:List O) (i:Nat),(N8 ks n l)[i]?=(l[i]?).map (upO ks n)
 | [],i=>by simp [N8]
 | j::l,0=>by simp [N8]
 | j::l,i+1=>by simpa [N8] using a2W l i
theorem a1V {ks:List Nat} {n:Nat}:∀l:List O,(N8 ks n l).length=l.length
 | []=>rfl
 | j::l=>by simp [N8,a1V l]
theorem a32 {k:Nat}:∀ {l:List Nat},a9f k l=true↔k∈l
 | []=>by simp [a9f]
 | j::l=>by
  rw [a9f]
  cases e:L7 j k
  ·show a9f k l=true↔k∈j::l
   rw [a32,c9e]
   have:=a2R.1 e
   exact Iff.intro (fun h=>.inr h) fun h=>h.resolve_left fun e=>this e.symm
  ·simp [C1.1 e]
theorem a33:∀ {l:List Nat},a7r l=true→l.Nodup
 | [],_=>List.nodup_nil
 | k::l,h=>by
  rw [a7r] at h
  split at h
  ·cases h
  ·rename_i hm
   exact d08.2 ⟨fun hk=>(by rw [a32.2 hk] at hm;cases hm),a33 h⟩
theorem a5N:∀ {l:List Nat},l.Nodup→∀ {i j k:Nat},l[i]?=some k→l[j]?=some k→i=j
 | [],_,i,j,k,h,_=>by simp at h
 | x::l,hn,i,j,k,hi,hj=>by
  obtain ⟨h1,h2⟩:=d08.1 hn
  cases i with
  | zero =>
   cases j with
   | zero=>rfl
   | succ j =>
    simp at hi hj
    subst hi
    exact absurd (c9h hj) h1
  | succ i =>
   cases j with
   | zero =>
    simp at hi hj
    subst hj
    exact absurd (c9h hi) h1
   | succ j=>exact congrArg (·+1) (a5N h2 (k:=k) (by simpa using hi) (by simpa using hj))
theorem a7z:∀ {ks:List Nat} {l:List O} {i k:Nat},ks[i]?=some k→(pick ks l)[i]?=some (y6 l k)
 | [],_,_,_,h=>by simp at h
 | k0::ks,l,0,k,h=>by simp at h;subst h;rfl
 | k0::ks,l,i+1,k,h=>by simpa [pick] using a7z (l:=l) (i:=i) (by simpa using h)
theorem a0h:∀ {l:List O},b7U l=true→∀o∈l,o≠.dead∧∀js,o≠.kl js
 | [],_,o,h=>by simp at h
 | x::l,h,o,hm=>by
  cases x with
  | dead=>cases h
  | box cs =>
   rcases c9e.1 hm with rfl|hm
   ·simp
   ·exact a0h (l:=l) h o hm
  | row z e r =>
   rcases c9e.1 hm with rfl|hm
   ·simp
   ·exact a0h (l:=l) h o hm
  | mp kt es =>
   rcases c9e.1 hm with rfl|hm
   ·simp
   ·exact a0h (l:=l) h o hm
  | it P =>
   rcases c9e.1 hm with rfl|hm
   ·simp
   ·exact a0h (l:=l) h o hm
  | ob T vs =>
   rcases c9e.1 hm with rfl|hm
   ·simp
   ·exact a0h (l:=l) h o hm
  | kl js=>cases h
structure SubOk (ks:List Nat) (vs':List V) (os':List O) (vs:List V) (s:S):Prop where
 nd:a7r ks=true
 len:m7 os'=C4 ks
 args:upT ks (m7 s.o) vs'=vs
 objs:pick ks s.o=N8 ks (m7 s.o) os'
 al:b7U os'=true
 low:a9g (C4 ks) vs'=true
 lowo:a1U (C4 ks) os'=true
theorem SubOk.nokl {ks:List Nat} {vs' vs:List V} {os':List O} {s:S} (h:SubOk ks vs' os' vs s) {i:Nat} {o:O} (ho:os'[i]?=some o):∀js,o≠.kl js:=(a0h h.al o (c9h ho)).2
theorem SubOk.obj {ks:List Nat} {vs' vs:List V} {os':List O} (h:SubOk ks vs' os' vs s) {i k:Nat} (hi:ks[i]?=some k):∃o,os'[i]?=some o∧(o≠.dead∧∀js,o≠.kl js)∧s.o[k]?=some (upO ks s.o.length o):=by
 have hl:=h.len
 rw [o9,H4] at hl
 have hlt:i<os'.length:=by rw [hl];exact (c8S.1 hi).1
 have h1:=a7z (l:=s.o) hi
 rw [h.objs,a2W,c8T hlt] at h1
 have hd:=a0h h.al os'[i] (List.getElem_mem hlt)
 refine ⟨os'[i],c8T hlt,hd,?_⟩
 have h2:=Option.some.inj h1
 rw [←o9,h2]
 refine A6 rfl ?_
 rw [←h2]
 generalize os'[i]=o at hd
 cases o <;> simp_all [upO]
def sub (ks:List Nat) (g:Nat→Value) (i:Nat):Value:=match ks[i]? with|some k=>g k|none=>.nilFunc
theorem b8h (h:RelI I0 X w0 I g s a w) {ks:List Nat} {vs' vs:List V} {os':List O} {args:List Value} (hs:SubOk ks vs' os' vs s) (hv:j8 I w g args vs):RelI I (Xof (sub ks g) os') ⟨w,sub ks g,os'.length,[]⟩ I (sub ks g) ⟨vs',os'⟩ { tmps:=args.toArray,defers:=[] } w:=by
 have hl:=hs.len
 rw [o9,H4] at hl
 have hg:∀j,j<C4 ks→sub ks g j=g (upN ks (m7 s.o) j):=fun j hj=>by
  rw [H4] at hj
  unfold sub
  rw [a7x hj]
 have hgs:∀ {i k:Nat},ks[i]?=some k→sub ks g i=g k:=fun {i k} h=>by unfold sub;rw [h]
 have hX:∀ {i:Nat} {o:O},os'[i]?=some o→o≠.dead→∀b,gbl (sub ks g i) b→a2o (Xof (sub ks g) os') ⟨w,sub ks g,os'.length,[]⟩ b:=fun {i o} ho hd b hb=>.inr ⟨i,o,ho,hd,hb⟩
 refine ⟨fun _ _ h=>h,fun b k hb=>⟨(h.lt b k hb).1,fun _=>.inl hb⟩,Fr.refl _ _,y9.refl _ _,c9c _,fun _ _ _=>rfl,fun i o ho=>?_,fun i j b hi hj hbi hbj=>?_,fun i hi=>?_,?_,rfl,?_⟩
 ·have hlt:i<ks.length:=by rw [←hl];exact (c8S.1 ho).1
  have hi:ks[i]?=some ks[i]:=c8T hlt
  obtain ⟨o',ho',⟨hd,_⟩,hso⟩:=hs.obj hi
  have ho:os'[i]?=some o:=ho
  rw [ho] at ho'
  injection ho' with ho'
  subst ho'
  have hob:=h.obj _ _ hso
  have hgi:=hgs hi
  cases o with
  | dead=>exact True.intro
  | box cs =>
   obtain ⟨b,us,t,h1,h2,h3,h4,h5,h6⟩:=hob
   refine ⟨b,us,t,by rw [hgi];exact h1,h2,b43 hg (by rw [o9];exact h3) (a4J hs.lowo ho),h4,h5,hX ho hd b (by rw [hgi,h1];rfl)⟩
  | row z e rows =>
   obtain ⟨us,h1,h2,h3,h4⟩:=hob
   refine ⟨us,by rw [hgi];exact h1,h2,h3,fun b hb=>?_⟩
   rw [hgi] at hb
   exact ⟨(h4 b hb).1,(h4 b hb).2.1,hX ho hd b (by rw [hgi];exact (a1S h1).2 hb)⟩
  | mp kt es =>
   obtain ⟨b,l,c,h1,h2,h3,h4,h5⟩:=hob
   exact ⟨b,l,c,by rw [hgi];exact h1,h2,h3,h4,hX ho hd b (by rw [hgi,h1];rfl)⟩
  | ob T vs =>
   obtain ⟨b,h1,h2,h4,h5⟩:=hob
   exact ⟨b,by rw [hgi];exact h1,h2,h4,hX ho hd b (by rw [hgi,h1];rfl)⟩
  | it P =>
   obtain ⟨A,n,cap,F,h1,h2,h3,h4⟩:=hob
   exact ⟨A,n,cap,F,by rw [hgi];exact h1,h2,h3,fun b hb=>⟨(h4 b hb).1,(h4 b hb).2.1,hX ho hd b (by rw [hgi,h1,a1Q];exact hb)⟩⟩
  | kl js=>exact absurd rfl (hs.nokl ho js)
 ·obtain ⟨oi,hoi,hdi⟩:=hi
  obtain ⟨oj,hoj,hdj⟩:=hj
  have hli:i<ks.length:=by rw [←hl];exact (c8S.1 hoi).1
  have hlj:j<ks.length:=by rw [←hl];exact (c8S.1 hoj).1
  have hi:ks[i]?=some ks[i]:=c8T hli
  have hj:ks[j]?=some ks[j]:=c8T hlj
  have liv:∀ {i k:Nat},ks[i]?=some k→M5 s k:=fun {i k} h=>by
   obtain ⟨o,_,hd,hso⟩:=hs.obj h
   exact ⟨_,hso,by cases o <;> simp_all [upO]⟩
  rw [hgs hi] at hbi
  rw [hgs hj] at hbj
  have:=h.dis _ _ b (liv hi) (liv hj) hbi hbj
  exact a5N (a33 hs.nd) hi (by rw [this];exact hj)
 ·have hi:os'.length≤i:=hi
  unfold sub
  rw [c9H (by omega)]
 ·show j8 I w (sub ks g) args vs'
  exact b8d hg (by rw [hs.args];exact hv) hs.low
 ·refine h.tabs fun b ⟨i,o,ho,hd,hb⟩=>?_
  have hlt:i<ks.length:=by rw [←hl];exact (c8S.1 ho).1
  have hi:ks[i]?=some ks[i]:=c8T hlt
  obtain ⟨o',ho',⟨hd',_⟩,hso⟩:=hs.obj hi
  rw [hgs hi] at hb
  exact ((h.obj _ _ hso).blk (by cases o' <;> simp_all [upO]) b hb).2
def b6f:List Nat→Nat→Option Nat
 | [],_=>none
 | j::l,k=>if j=k then some 0 else (b6f l k).map (·+1)
theorem b44:∀ {l:List Nat},l.Nodup→∀ {i k:Nat},l[i]?=some k→b6f l k=some i
 | [],_,i,k,h=>by simp at h
 | x::l,hn,i,k,h=>by
  obtain ⟨h1,h2⟩:=d08.1 hn
  rw [b6f]
  cases i with
  | zero=>simp at h;rw [c8Y h]
  | succ i =>
   have h3:l[i]?=some k:=by simpa using h
   rw [c8W fun e=>h1 (by rw [e];exact c9h h3),b44 h2 h3]
   rfl
theorem a70:∀ {l:List Nat} {k:Nat},k∉l→b6f l k=none
 | [],_,_=>rfl
 | x::l,k,h=>by
  rw [b6f,c8W fun e=>h (by rw [e];exact c8V ..),a70 fun hm=>h (c8X _ hm)]
  rfl
theorem a4K {ks:List Nat} {n:Nat} {o:O} (h:upO ks n o≠.dead):o≠.dead:=by cases o <;> simp_all [upO]
theorem a4L {ks:List Nat} {n:Nat} {o:O} (h:o≠.dead) (hk:∀js,o≠.kl js):upO ks n o≠.dead:=by cases o <;> simp_all [upO]
theorem called (h:RelI I0 X w0 I g s a w) {ks:List Nat} {vs' vs res:List V} {os' os2:List O} {us:List Value} {w':World} {I':Nat→Nat→Prop} {g1:Nat→Value} (hs:SubOk ks vs' os' vs s)
    (h1:RelI I (Xof (sub ks g) os') ⟨w,sub ks g,os'.length,[]⟩ I' g1 ⟨res,os2⟩ { tmps:=us.toArray,defers:=[] } w'):∃g2,RelI I0 X w0 I' g2 (a2P ks os2 s) a w'∧AtV I' w' g2 (pkg us) (Z8 (upT ks (m7 s.o) res))∧((∀i k,ks[i]?=some k→g1 i=g k)→RelI I0 X w0 I' g2 ⟨s.t,E7 ks (N8 ks (m7 s.o) os2) s.o⟩ a w'):=by
  have hm:=hs.len
  rw [o9,H4] at hm
  have hnd:=a33 hs.nd
  obtain ⟨n,hn⟩:∃n,n=s.o.length:=⟨_,rfl⟩
  have hklt:∀k∈ks,k<n:=fun k hk=>by
    obtain ⟨i,hi⟩:=c9A.1 hk
    obtain ⟨o,_,_,ho⟩:=hs.obj hi
    rw [hn]
    exact (c8S.1 ho).1
  have hm2:ks.length≤os2.length:=by rw [←hm];exact h1.lo
  obtain ⟨g2,hg2⟩:∃g2:Nat→Value,g2=fun k=>match b6f ks k with|some i=>g1 i|none=>if k<n then g k else g1 (ks.length+(k - n)):=⟨_,rfl⟩
  have f_in:∀ {i k:Nat},ks[i]?=some k→g2 k=g1 i:=fun {i k} hi=>by rw [hg2];simp only;rw [b44 hnd hi]
  have f_out:∀k,k∉ks→k<n→g2 k=g k:=fun k hk hlt=>by rw [hg2];simp only;rw [a70 hk];simp only;rw [c8Y hlt]
  have f_new:∀d,g2 (n+d)=g1 (ks.length+d):=fun d=>by
    rw [hg2];simp only
    rw [a70 fun hk=>by have:=hklt _ hk;omega]
    simp only
    rw [c8W (by omega)]
    congr 1
    omega
  have f1:∀j,g2 (upN ks n j)=g1 j:=fun j=>by
    rcases c9N j ks.length with hj|hj
    · exact f_in (a7x hj)
    · rw [b3t hj,f_new]
      congr 1
      omega
  have gsub:∀ {i k:Nat},ks[i]?=some k→sub ks g i=g k:=fun {i k} h=>by unfold sub;rw [h]
  have f_ref:∀j,W7 (g j)=true→g2 j=g j:=fun j hr=>by
    by_cases hj:j∈ks
    · obtain ⟨i,hi⟩:=c9A.1 hj
      have hlt:=(c8S.1 hi).1
      rw [f_in hi,h1.st i (by show i<os'.length;rw [hm];exact hlt) (by show W7 (sub ks g i)=true;rw [gsub hi];exact hr)]
      exact gsub hi
    · refine f_out j hj ?_
      rcases c9N j n with hlt|hge
      · exact hlt
      · rw [h.out j (by omega)] at hr;cases hr
  have xof:∀b,Xof (sub ks g) os' b→∃k,k∈ks∧M5 s k∧gbl (g k) b∧b<w.heap.size∧a2o X w0 b:=fun b ⟨i,o,ho,hd,hb⟩=>by
    have hlt:i<ks.length:=by rw [←hm];exact (c8S.1 ho).1
    have hi:ks[i]?=some ks[i]:=c8T hlt
    obtain ⟨o',ho',hd',hso⟩:=hs.obj hi
    rw [gsub hi] at hb
    have hdd:upO ks s.o.length o'≠.dead:=a4L hd'.1 hd'.2
    have:=(h.obj _ _ hso).blk hdd b hb
    exact ⟨ks[i],List.getElem_mem hlt,⟨_,hso,hdd⟩,hb,this.1,this.2⟩
  have mine:∀b,a2o (Xof (sub ks g) os') ⟨w,sub ks g,os'.length,[]⟩ b→a2o X w0 b:=fun b hb=>by
    rcases hb with hb|hb
    · exact .inl (d0k h.fr.size hb)
    · obtain ⟨k,_,_,_,_,hM⟩:=xof b hb
      exact hM
  have hkp:y9 I w w':=h1.kp
  have hII:∀b k,I b k→I' b k:=h1.im
  have hlen:(a2P ks os2 s).o.length=n+(os2.length - ks.length):=by
    show (E7 ks (N8 ks (m7 s.o) os2) (T0 ks s.o)).length=_
    rw [a5M (by rw [a1V];exact hm2),K4,a1V,hn]
  have each:∀k o,(a2P ks os2 s).o[k]?=some o→(∃i o1,os2[i]?=some o1∧o=upO ks n o1∧g2 k=g1 i∧k=upN ks n i)∨(k∉ks∧k<n∧g2 k=g k∧∃o',s.o[k]?=some o'∧(o≠.dead→o'≠.dead)∧((∃cs,o'=.box cs∧o=.box (b07 ks cs))∨(∃js,o'=.kl js∧o=.kl (a7y ks js))∨(o=o'∧(∀cs,o≠.box cs)∧∀js,o≠.kl js))):=fun k o hk=>by
    have hk:(E7 ks (N8 ks (m7 s.o) os2) (T0 ks s.o))[k]?=some o:=hk
    rw [o9,←hn] at hk
    have hkl:∀k∈ks,k<(T0 ks s.o).length:=fun k hk=>by rw [K4,←hn];exact hklt k hk
    have hol:ks.length≤(N8 ks n os2).length:=by rw [a1V];exact hm2
    by_cases hin:k∈ks
    · obtain ⟨i,hi⟩:=c9A.1 hin
      rw [a1l hnd hkl hol hi,a2W] at hk
      obtain ⟨o1,ho1,rfl⟩:=c9Z.1 hk
      have hlt:=(c8S.1 hi).1
      have h3:=a7x (n:=n) hlt
      rw [hi] at h3
      exact .inl ⟨i,o1,ho1,rfl,f_in hi,Option.some.inj h3⟩
    · rcases c9N k n with hlt|hge
      · rw [a1l.backO_out hkl hol hin (by rw [K4,←hn];exact hlt)] at hk
        exact .inr ⟨hin,hlt,f_out k hin hlt,a4j ks s.o k o hk⟩
      · obtain ⟨d,rfl⟩:∃d,k=n+d:=⟨k - n,by omega⟩
        have hnl:(T0 ks s.o).length+d=n+d:=by rw [K4,←hn]
        rw [←hnl,a31 hol d,a2W] at hk
        obtain ⟨o1,ho1,rfl⟩:=c9Z.1 hk
        refine .inl ⟨ks.length+d,o1,ho1,rfl,f_new d,?_⟩
        rw [b3t (by omega)]
        omega
  have hgm:∀k,(if k<n then g2 k else g k)≠.nilFunc→g2 k=(if k<n then g2 k else g k):=fun k hk=>by
    by_cases hlt:k<n
    · rw [c8Y hlt]
    · rw [c8W hlt] at hk
      exact absurd (h.out k (by omega)) hk
  have hk1:∀j,j∉ks→(if j<n then g2 j else g j)=g j:=fun j hj=>by
    by_cases hlt:j<n
    · rw [c8Y hlt];exact f_out j hj hlt
    · rw [c8W hlt]
  have hk2:∀j,W7 (g j)=true→(if j<n then g2 j else g j)=g j:=fun j hb=>by
    by_cases hlt:j<n
    · rw [c8Y hlt];exact f_ref j hb
    · rw [c8W hlt]
  have f1':∀j,g1 j≠.nilFunc→g2 (upN ks n j)=g1 j:=fun j _=>f1 j
  have hR:RelI I0 X w0 I' g2 (a2P ks os2 s) a w':=by
   refine ⟨fun b k hb=>hII _ _ (h.im b k hb),fun b k hb=>⟨(h1.lt b k hb).1,fun hlt=>?_⟩,⟨h1.fr.os.trans h.fr.os,h1.fr.tape.trans h.fr.tape,h1.fr.output.trans h.fr.output,d0k h.fr.size h1.fr.size,fun b hb hX=>?_⟩,h.kp.trans fun b k hb i hi=>hkp b k (h.im b k hb) i hi,?_,fun k hk hr=>?_,fun k o hk=>?_,fun j k b hj hk hbj hbk=>?_,fun k hk=>?_,?_,h.dfr⟩
   · rcases (h1.lt b k hb).2 (c9U hlt h.fr.size) with h3|h3
     · exact (h.lt b k h3).2 hlt
     · obtain ⟨_,_,_,_,_,hM⟩:=xof b h3
       rcases hM with hM|hM
       · omega
       · exact .inr hM
   · refine (h1.fr.block b (c9U hb h.fr.size) fun hx=>?_).trans (h.fr.block b hb hX)
     obtain ⟨_,_,_,_,_,hM⟩:=xof b hx
     rcases hM with hM|hM
     · omega
     · exact hX hM
   · rw [hlen]
     have:=h.lo
     omega
   · have e:=h.st k hk hr
     rw [←e] at hr ⊢
     exact f_ref k hr
   · rcases each k o hk with ⟨i,o1,ho1,rfl,e,_⟩|⟨hin,hlt,e,o',ho',hdd,hsh⟩
     · have hob:=h1.obj i o1 ho1
       cases o1 with
       | dead=>exact True.intro
       | box cs =>
         obtain ⟨b,us,t,a1,a2,a3,a4,a5,a6⟩:=hob
         exact ⟨b,us,t,e.trans a1,a2,b8f f1' a3,a4,a5,mine b a6⟩
       | row z e2 rows =>
         obtain ⟨us,a1,a2,a3,a4⟩:=hob
         exact ⟨us,by rw [e];exact a1,a2,a3,fun b hb=>by rw [e] at hb;exact ⟨(a4 b hb).1,(a4 b hb).2.1,mine b (a4 b hb).2.2⟩⟩
       | mp kt es =>
         obtain ⟨b,l,c,a1,a2,a3,a4,a5⟩:=hob
         exact ⟨b,l,c,e.trans a1,a2,a3,a4,mine b a5⟩
       | ob T vs =>
         obtain ⟨b,a1,a2,a4,a5⟩:=hob
         exact ⟨b,e.trans a1,a2,a4,mine b a5⟩
       | it P =>
         obtain ⟨A,n',cap,F,a1,a2,a3,a4⟩:=hob
         exact ⟨A,n',cap,F,e.trans a1,a2,a3,fun b hb=>⟨(a4 b hb).1,(a4 b hb).2.1,mine b (a4 b hb).2.2⟩⟩
       | kl js=>exact True.intro
     · by_cases hd:o=.dead
       · subst hd;exact True.intro
       have hd':=hdd hd
       have hob:=h.obj k o' ho'
       have nox:∀b,gbl (g k) b→¬Xof (sub ks g) os' b:=fun b hb hx=>by
         obtain ⟨k',hk',hl',hb',_⟩:=xof b hx
         exact hin (by rw [h.dis k k' b ⟨_,ho',hd'⟩ hl' hb hb'];exact hk')
       have hkeep:a0b X w0 I' w' g k o':=by
         refine hob.keep hII hkp (fun b hb=>h1.fr.block b (hob.blk hd' b hb).1 (nox b hb)) fun b hb k' hk'=>?_
         rcases (h1.lt b k' hk').2 (hob.blk hd' b hb).1 with h3|h3
         · exact h3
         · exact absurd h3 (nox b hb)
       rcases hsh with ⟨cs,rfl,rfl⟩|⟨cs,rfl,rfl⟩|⟨rfl,hnb,hnf⟩
       · obtain ⟨b,us,t,a1,a2,a3,a4⟩:=hkeep
         exact ⟨b,us,t,e.trans a1,a2,(a9u ks g hk1 hk2 a3).more hgm,a4⟩
       · obtain ⟨us,a1,a2,a3⟩:=hkeep
         refine ⟨us,e.trans a1,a2,fun j u hu=>?_⟩
         by_cases hjk:j∈ks
         · exact .inr (.inr (a4i (.inl hjk)))
         · rcases a3 j u hu with a4|a4|a4
           · exact .inl a4
           · have:=(c9g.1 hu).1
             exact .inr (.inl ((f_out j hjk (by omega)).trans a4))
           · exact .inr (.inr (a4i (.inr a4)))
       · cases o with
         | dead=>exact True.intro
         | box cs=>exact absurd rfl (hnb cs)
         | kl js=>exact absurd rfl (hnf js)
         | mp kt es =>
           obtain ⟨b,l,c,a1,a2⟩:=hkeep
           exact ⟨b,l,c,e.trans a1,a2⟩
         | ob T vs =>
           obtain ⟨b,a1,a2⟩:=hkeep
           exact ⟨b,e.trans a1,a2⟩
         | it P =>
           obtain ⟨A,n',cap,F,a1,a2⟩:=hkeep
           exact ⟨A,n',cap,F,e.trans a1,a2⟩
         | row z e2 rows =>
           obtain ⟨us,a1,a2,a3,a4⟩:=hkeep
           exact ⟨us,by rw [e];exact a1,a2,a3,by rw [e];exact a4⟩
   · obtain ⟨oj,hoj,hdj⟩:=hj
     obtain ⟨ok,hok,hdk⟩:=hk
     have cross:∀ {i k:Nat} {o1:O},os2[i]?=some o1→o1≠.dead→gbl (g1 i) b→k∉ks→M5 s k→¬gbl (g k) b:=fun {i k o1} ho1 hd1 hb1 hin hl hb=>by
       rcases ((h1.obj i o1 ho1).blk hd1 b hb1).2 with h3|h3
       · have h3:w.heap.size≤b:=h3
         have:=h.blk_lt hl hb
         omega
       · obtain ⟨k',hk',hl',hb',_⟩:=xof b h3
         exact hin (by rw [h.dis k k' b hl hl' hb hb'];exact hk')
     rcases each j oj hoj with ⟨i,o1,ho1,rfl,e,eu⟩|⟨hin,hlt,e,o',ho',hdd,_⟩ <;> rcases each k ok hok with ⟨i',o1',ho1',rfl,e',eu'⟩|⟨hin',hlt',e',o'',ho'',hdd',_⟩
     · rw [e] at hbj
       rw [e'] at hbk
       rw [eu,eu',h1.dis i i' b ⟨_,ho1,a4K hdj⟩ ⟨_,ho1',a4K hdk⟩ hbj hbk]
     · rw [e] at hbj
       rw [e'] at hbk
       exact absurd hbk (cross ho1 (a4K hdj) hbj hin' ⟨_,ho'',hdd' hdk⟩)
     · rw [e] at hbj
       rw [e'] at hbk
       exact absurd hbj (cross ho1' (a4K hdk) hbk hin ⟨_,ho',hdd hdj⟩)
     · rw [e] at hbj
       rw [e'] at hbk
       exact h.dis j k b ⟨_,ho',hdd hdj⟩ ⟨_,ho'',hdd' hdk⟩ hbj hbk
   · rw [hlen] at hk
     obtain ⟨d,rfl⟩:∃d,k=n+d:=⟨k - n,by omega⟩
     rw [f_new]
     exact h1.out _ (by show os2.length≤_;omega)
   · exact ((a5L ks g hk1 hk2 h.tmp).more hgm).mono hII hkp

  have hpk:AtV I' w' g2 (pkg us) (Z8 (upT ks (m7 s.o) res)):=by
    have h3:j8 I' w' g1 us res:=h1.tmp
    rw [o9,←hn]
    exact b8g (c3x f1' h3)
  refine ⟨g2,hR,hpk,fun hstay=>?_⟩
  have hgg:∀k,g k≠.nilFunc→g2 k=g k:=fun k hk=>by
    by_cases hin:k∈ks
    · obtain ⟨i,hi⟩:=c9A.1 hin
      rw [f_in hi]
      exact hstay i k hi
    · rcases c9N k n with hlt|hge
      · exact f_out k hin hlt
      · exact absurd (h.out k (by omega)) hk
  have hol:ks.length≤(N8 ks n os2).length:=by rw [a1V];exact hm2
  have hkl1:∀k∈ks,k<(T0 ks s.o).length:=fun k hk=>by rw [K4,←hn];exact hklt k hk
  have hkl2:∀k∈ks,k<s.o.length:=fun k hk=>by rw [←hn];exact hklt k hk
  have hl1:(E7 ks (N8 ks n os2) s.o).length=(a2P ks os2 s).o.length:=by
    rw [hlen,a5M hol,a1V,←hn]
  have hbk:(a2P ks os2 s).o=E7 ks (N8 ks n os2) (T0 ks s.o):=by
    show E7 ks (N8 ks (m7 s.o) os2) (T0 ks s.o)=_
    rw [o9,←hn]
  have two:∀k o,(E7 ks (N8 ks n os2) s.o)[k]?=some o→(a2P ks os2 s).o[k]?=some o∨(k∉ks∧k<n∧s.o[k]?=some o):=fun k o hk=>by
    rw [hbk]
    by_cases hin:k∈ks
    · obtain ⟨i,hi⟩:=c9A.1 hin
      rw [a1l hnd hkl2 hol hi] at hk
      exact .inl (by rw [a1l hnd hkl1 hol hi];exact hk)
    · rcases c9N k n with hlt|hge
      · rw [a1l.backO_out hkl2 hol hin (by rw [←hn];exact hlt)] at hk
        exact .inr ⟨hin,hlt,hk⟩
      · obtain ⟨d,rfl⟩:∃d,k=n+d:=⟨k - n,by omega⟩
        have e1:s.o.length+d=n+d:=by rw [←hn]
        have e2:(T0 ks s.o).length+d=n+d:=by rw [K4,←hn]
        rw [←e1,a31 hol d] at hk
        exact .inl (by rw [←e2,a31 hol d];exact hk)
  have lv:∀k,M5 ⟨s.t,E7 ks (N8 ks n os2) s.o⟩ k→M5 (a2P ks os2 s) k:=fun k ⟨o,ho,hd⟩=>by
    rcases two k o ho with h3|⟨hin,hlt,hso⟩
    · exact ⟨o,h3,hd⟩
    · have hex:∃o2,(T0 ks s.o)[k]?=some o2:=⟨_,c8T (by rw [K4,←hn];exact hlt)⟩
      obtain ⟨o2,ho2⟩:=hex
      obtain ⟨o3,h4,h5,h6⟩:=a4j ks s.o k o2 ho2
      rw [hso] at h4
      injection h4 with h4
      subst h4
      refine ⟨o2,by rw [hbk,a1l.backO_out hkl1 hol hin (by rw [K4,←hn];exact hlt)];exact ho2,?_⟩
      rcases h6 with ⟨cs,rfl,rfl⟩|⟨cs,rfl,rfl⟩|⟨rfl,_,_⟩
      · simp
      · simp
      · exact hd
  rw [o9,←hn]
  refine ⟨hR.im,hR.lt,hR.fr,hR.kp,by show w0.n≤(E7 ks (N8 ks n os2) s.o).length;rw [hl1];exact hR.lo,hR.st,fun k o hk=>?_,fun j k b hj hk=>hR.dis j k b (lv j hj) (lv k hk),fun k hk=>hR.out k (by rw [←hl1];exact hk),(h.tmp.more hgg).mono hII hkp,h.dfr⟩
  rcases two k o hk with h3|⟨hin,hlt,hso⟩
  · exact hR.obj k o h3
  · by_cases hd:o=.dead
    · subst hd;exact True.intro
    have hob:=h.obj k o hso
    have nox:∀b,gbl (g k) b→¬Xof (sub ks g) os' b:=fun b hb hx=>by
      obtain ⟨k',hk',hl',hb',_⟩:=xof b hx
      exact hin (by rw [h.dis k k' b ⟨_,hso,hd⟩ hl' hb hb'];exact hk')
    have hkeep:a0b X w0 I' w' g k o:=by
      refine hob.keep hII hkp (fun b hb=>h1.fr.block b (hob.blk hd b hb).1 (nox b hb)) fun b hb k' hk'=>?_
      rcases (h1.lt b k' hk').2 (hob.blk hd b hb).1 with h3|h3
      · exact h3
      · exact absurd h3 (nox b hb)
    exact hkeep.more hgg
end
def c1k:List O→Bool
 | []=>true
 | .kl _::_=>false
 | _::l=>c1k l
theorem a4M:∀ {l:List O},c1k l=true→∀ {i:Nat} {o:O},l[i]?=some o→∀js,o≠.kl js
 | [],_,i,o,h=>by simp at h
 | x::l,hl,i,o,h=>by
  have hl':c1k l=true∧∀js,x≠.kl js:=by cases x <;> first|cases hl|exact ⟨hl,by simp⟩
  cases i with
  | zero=>simp at h;subst h;exact hl'.2
  | succ i=>exact a4M hl'.1 (by simpa using h)
structure KeepOk (n:Nat) (ks:List Nat) (res':List V) (os':List O) (res:List V) (s:S):Prop where
 nd:a7r ks=true
 len:m7 os'=C4 ks
 head:b40 0 n ks=true
 args:upT ks (m7 s.o) res'=res
 objs:pick ks s.o=N8 ks (m7 s.o) os'
 low:a9g (C4 ks) res'=true
 lowo:a1U (C4 ks) os'=true
 nk:c1k os'=true
theorem b1M:∀ {n j:Nat} {ks:List Nat},b40 j n ks=true→n≤ks.length∧∀i,i<n→ks[i]?=some (j+i)
 | 0,j,ks,_=>⟨c95 _,fun i hi=>absurd hi (d1k _)⟩
 | n+1,j,[],h=>by cases h
 | n+1,j,k::ks,h=>by
  rw [b40] at h
  split at h
  ·rename_i e
   have e:=C1.1 e
   subst e
   obtain ⟨h1,h2⟩:=b1M h
   refine ⟨by simp;exact h1,fun i hi=>?_⟩
   cases i with
   | zero=>simp
   | succ i =>
    have:=h2 i (by omega)
    simp only [d0w]
    rw [this]
    congr 1
    omega
  ·cases h
section
variable {I0:Nat→Nat→Prop} {X:Nat→Prop} {w0:W0} {I:Nat→Nat→Prop} {g:Nat→Value} {s:S} {a:Act} {w:World}
theorem b45 (h:RelI I0 X w0 I g s a w) (hd0:w0.d=[]) {ks:List Nat} {res' res:List V} {os':List O} {us:List Value} (hs:KeepOk w0.n ks res' os' res s) (hv:j8 I w g us res):RelI I0 X w0 I (sub ks g) ⟨res',os'⟩ { tmps:=us.toArray,defers:=[] } w:=by
 have hl:=hs.len
 rw [o9,H4] at hl
 obtain ⟨hn1,hn2⟩:=b1M hs.head
 have hg:∀j,j<C4 ks→sub ks g j=g (upN ks (m7 s.o) j):=fun j hj=>by
  rw [H4] at hj
  unfold sub
  rw [a7x hj]
 have hgs:∀ {i k:Nat},ks[i]?=some k→sub ks g i=g k:=fun {i k} h=>by unfold sub;rw [h]
 have hobj:∀ {i:Nat} {o:O},os'[i]?=some o→o≠.dead→∃k,ks[i]?=some k∧s.o[k]?=some (upO ks s.o.length o):=fun {i o} ho hd=>by
  have hlt:i<ks.length:=by rw [←hl];exact (c8S.1 ho).1
  have hi:ks[i]?=some ks[i]:=c8T hlt
  refine ⟨_,hi,?_⟩
  have h1:=a7z (l:=s.o) hi
  rw [hs.objs,a2W,ho] at h1
  have h2:=Option.some.inj h1
  rw [←o9,h2]
  refine A6 rfl ?_
  rw [←h2]
  exact a4L hd (a4M hs.nk ho)
 refine ⟨h.im,h.lt,h.fr,h.kp,by show w0.n≤os'.length;omega,fun k hk hr=>?_,fun i o ho=>?_,fun i j b hi hj hbi hbj=>?_,fun i hi=>?_,?_,⟨hd0.symm,h.dfr.2⟩⟩
 ·have:=hn2 k hk
  rw [c9L] at this
  rw [hgs this]
  exact h.st k hk hr
 ·have ho:os'[i]?=some o:=ho
  by_cases hd:o=.dead
  ·subst hd;exact True.intro
  obtain ⟨k,hi,hso⟩:=hobj ho hd
  have hob:=h.obj _ _ hso
  have hgi:=hgs hi
  cases o with
  | dead=>exact True.intro
  | box cs =>
   obtain ⟨b,us,t,h1,h2,h3,h4,h5,h6⟩:=hob
   exact ⟨b,us,t,by rw [hgi];exact h1,h2,b43 hg (by rw [o9];exact h3) (a4J hs.lowo ho),h4,h5,h6⟩
  | row z e rows =>
   obtain ⟨us,h1,h2,h3,h4⟩:=hob
   exact ⟨us,by rw [hgi];exact h1,h2,h3,fun b hb=>by rw [hgi] at hb;exact h4 b hb⟩
  | mp kt es =>
   obtain ⟨b,l,c,h1,h2⟩:=hob
   exact ⟨b,l,c,by rw [hgi];exact h1,h2⟩
  | ob T vs =>
   obtain ⟨b,h1,h2⟩:=hob
   exact ⟨b,by rw [hgi];exact h1,h2⟩
  | it P =>
   obtain ⟨A,n,cap,F,h1,h2⟩:=hob
   exact ⟨A,n,cap,F,by rw [hgi];exact h1,h2⟩
  | kl js=>exact absurd rfl (a4M hs.nk ho js)
 ·obtain ⟨oi,hoi,hdi⟩:=hi
  obtain ⟨oj,hoj,hdj⟩:=hj
  obtain ⟨ki,hi,hsi⟩:=hobj hoi hdi
  obtain ⟨kj,hj,hsj⟩:=hobj hoj hdj
  rw [hgs hi] at hbi
  rw [hgs hj] at hbj
  have:=h.dis _ _ b ⟨_,hsi,a4L hdi (a4M hs.nk hoi)⟩ ⟨_,hsj,a4L hdj (a4M hs.nk hoj)⟩ hbi hbj
  exact a5N (a33 hs.nd) hi (by rw [this];exact hj)
 ·have hi:os'.length≤i:=hi
  unfold sub
  rw [c9H (by omega)]
 ·show j8 I w (sub ks g) us res'
  exact b8d hg (by rw [hs.args];exact hv) hs.low
end
section
variable {I0:Nat→Nat→Prop} {X:Nat→Prop} {w0:W0} {I:Nat→Nat→Prop} {g:Nat→Value} {s:S} {a:Act} {w:World}
theorem RelI.freeze (h:RelI I0 X w0 I g s a w) (k:Nat):∃I',RelI I0 X w0 I' g ⟨s.t,b7V s.o k⟩ a w∧∀b n,I b n→I' b n:=by
 unfold b7V
 split
 ·rename_i z e rows hok
  have hk:=A6 hok (by simp)
  rw [G7]
  obtain ⟨us,h1,h2,h3,h4⟩:=h.obj k _ hk
  have hlk:M5 s k:=⟨_,hk,by simp⟩
  have hlt:k<s.o.length:=(c8S.1 hk).1
  have hgk:∀ {b},gbl (g k) b↔(g k).ownBlock=some b:=a1S h1
  have hkp:y9 I w w:=y9.refl I w
  refine ⟨fun b n=>I b n∨((g k).ownBlock=some b∧n≤rows.length * (ty e).sz),⟨fun b n hb=>.inl (h.im b n hb),fun b n hb=>?_,h.fr,h.kp,by simpa using h.lo,h.st,fun j o hj=>?_,fun i j b hi hj=>h.dis i j b (a04 hk (by simp) hi) (a04 hk (by simp) hj),fun j hj=>h.out j (by simpa using hj),h.tmp.mono (fun _ _ h=>.inl h) hkp,h.dfr⟩,fun _ _ h=>.inl h⟩
  ·rcases hb with hb|⟨hb,_⟩
   ·exact h.lt b n hb
   ·refine ⟨(h1.lt b hb).2,fun hlt=>.inr ?_⟩
    rcases (h4 b hb).2.2 with hM|hM
    ·omega
    ·exact hM
  ·by_cases hjk:k=j
   ·subst hjk
    simp only [c93 hlt] at hj
    injection hj with hj
    subst hj
    refine ⟨us,h1,h2,h3.mono (fun _ _ h=>.inl h) hkp,fun b hb=>⟨fun _=>.inr ⟨hb,c9c _⟩,fun n hn=>⟨rfl,?_⟩,(h4 b hb).2.2⟩⟩
    rcases hn with hn|⟨_,hn⟩
    ·exact ((h4 b hb).2.1 n hn).2
    ·exact hn
   ·simp only [c9p hjk] at hj
    by_cases hd:o=.dead
    ·subst hd;exact True.intro
    refine (h.obj j o hj).keep (fun _ _ h=>.inl h) hkp (fun _ _=>rfl) fun b hb n hn=>?_
    rcases hn with hn|⟨hn,_⟩
    ·exact hn
    ·exact absurd (h.dis k j b hlk ⟨o,hj,hd⟩ (hgk.2 hn) hb) hjk
 ·exact ⟨I,h,fun _ _ h=>h⟩
theorem RelI.frz:∀(ks:List Nat) {I:Nat→Nat→Prop} {s:S},RelI I0 X w0 I g s a w→∃I',RelI I0 X w0 I' g ⟨s.t,frz ks s.o⟩ a w∧∀b n,I b n→I' b n
 | [],I,_,h=>⟨I,h,fun _ _ h=>h⟩
 | k::ks,_,_,h=>by
  obtain ⟨I',h',h1⟩:=h.freeze k
  obtain ⟨I2,h2,h3⟩:=RelI.frz ks h'
  exact ⟨I2,h2,fun b n hb=>h3 b n (h1 b n hb)⟩
theorem Rel.frz (h:Rel I0 X w0 s a w) (ks:List Nat):Rel I0 X w0 ⟨s.t,Vm.frz ks s.o⟩ a w:=by
 obtain ⟨I,g,h⟩:=h
 obtain ⟨I',h',_⟩:=RelI.frz ks h
 exact ⟨I',g,h'⟩
end
def K8 (s s':S):Prop:=∀(I0:Nat→Nat→Prop) (X:Nat→Prop) (w0:W0) (a:Act) (w:World),Rel I0 X w0 s a w→Rel I0 X w0 s' a w
def c4g (s:S) (F:S→Prop):Prop:=∀(I0:Nat→Nat→Prop) (X:Nat→Prop) (w0:W0) (a:Act) (w:World),Rel I0 X w0 s a w→∃s',F s'∧Rel I0 X w0 s' a w
theorem K8.trans {s s' s2:S} (h:K8 s s') (h2:K8 s' s2):K8 s s2:=fun _ _ _ _ _ hr=>h2 _ _ _ _ _ (h _ _ _ _ _ hr)
theorem K8.frz (s:S) (ks:List Nat):K8 s ⟨s.t,Vm.frz ks s.o⟩:=fun _ _ _ _ _ hr=>hr.frz ks
def L8 (f:Nat) (vs:List V) (o:List O) (K:V→List O→List Nat→Prop):Prop:=a2q Try.prog f=true∧∀(I0:Nat→Nat→Prop) (X:Nat→Prop) (w0:W0) (I:Nat→Nat→Prop) (g:Nat→Value) (t:List V) (a:Act) (w:World) (us:List Value),
 RelI I0 X w0 I g ⟨t,o⟩ a w→j8 I w g us vs→Calls Try.prog f us.toArray w fun e w'=>∃v x o' ks I' g',e=.returned v∧RelI I0 X w0 I' g' ⟨A2 ks t,o'⟩ a w'∧AtV I' w' g' v x∧K x o' ks
def a71 (f:Nat) (vs:List V) (o:List O) (x:V):Prop:=a2q Try.prog f=true∧∀(I0:Nat→Nat→Prop) (X:Nat→Prop) (w0:W0) (I:Nat→Nat→Prop) (g:Nat→Value) (t:List V) (a:Act) (w:World) (us:List Value),
 RelI I0 X w0 I g ⟨t,o⟩ a w→j8 I w g us vs→Calls Try.prog f us.toArray w fun e w'=>∃v I' g',e=.returned v∧RelI I0 X w0 I' g' ⟨t,o⟩ a w'∧AtV I' w' g' v x
theorem L8.mono {f:Nat} {vs:List V} {o:List O} {K K':V→List O→List Nat→Prop} (h:L8 f vs o K) (hK:∀x o' ks,K x o' ks→K' x o' ks):L8 f vs o K' :=
 ⟨h.1,fun I0 X w0 I g t a w us h1 h2=>(h.2 I0 X w0 I g t a w us h1 h2).mono fun e w' ⟨v,x,o',ks,I',g',e1,e2,e3,e4⟩=>⟨v,x,o',ks,I',g',e1,e2,e3,hK _ _ _ e4⟩⟩
def a1F (f:Nat) (vs:List V) (o:List O) (K:V→List O→Prop):Prop:=a2q Try.prog f=true∧∀(I0:Nat→Nat→Prop) (X:Nat→Prop) (w0:W0) (I:Nat→Nat→Prop) (g:Nat→Value) (t:List V) (a:Act) (w:World) (us:List Value),
 RelI I0 X w0 I g ⟨t,o⟩ a w→j8 I w g us vs→Calls Try.prog f us.toArray w fun e w'=>∃v x o' I' g',e=.returned v∧RelI I0 X w0 I' g' ⟨t,o'⟩ a w'∧AtV I' w' g' v x∧K x o'
theorem a1F.mono {f:Nat} {vs:List V} {o:List O} {K K':V→List O→Prop} (h:a1F f vs o K) (hK:∀x o',K x o'→K' x o'):a1F f vs o K' :=
 ⟨h.1,fun I0 X w0 I g t a w us h1 h2=>(h.2 I0 X w0 I g t a w us h1 h2).mono fun e w' ⟨v,x,o',I',g',e1,e2,e3,e4⟩=>⟨v,x,o',I',g',e1,e2,e3,hK _ _ e4⟩⟩
theorem L8.x {f:Nat} {vs:List V} {o:List O} {K:V→List O→Prop} (h:L8 f vs o fun x o' ks=>ks=[]∧K x o'):a1F f vs o K :=
 ⟨h.1,fun I0 X w0 I g t a w us h1 h2=>(h.2 I0 X w0 I g t a w us h1 h2).mono fun e w' ⟨v,x,o',ks,I',g',e1,e2,e3,e4,e5⟩=>by subst e4;exact ⟨v,x,o',I',g',e1,e2,e3,e5⟩⟩
theorem a71.x {f:Nat} {vs:List V} {o:List O} {x:V} (h:a71 f vs o x):a1F f vs o fun y o'=>y=x∧o'=o :=
 ⟨h.1,fun I0 X w0 I g t a w us h1 h2=>(h.2 I0 X w0 I g t a w us h1 h2).mono fun e w' ⟨v,I',g',e1,e2,e3⟩=>⟨v,x,o,I',g',e1,e2,e3,rfl,rfl⟩⟩
def c3y:V→Option Nat
 | .ptr k _=>some k
 | .el k _ _ _=>some k
 | _=>none
def a2r (l:List Nat) (t:List V) (o o':List O):Prop:=∀i∈l,∀k,c3y (n6 t i)=some k→y6 o' k=y6 o k
def b1O (R:S→S→Prop) (body:S→(X→S→Prop)→Prop) (s:S) (K:X→S→Prop):Prop:=∃(γ:Type) (st:γ→S) (inv:γ→Prop) (μ:γ→Nat),(∀x,inv x→m7 s.o≤m7 (st x).o)∧(∃x,R s (st x)∧inv x)∧∀x,inv x→body (st x) (fun e s=>b3m (fun s2=>∃y,inv y∧μ y<μ x∧R s2 (st y)) K e s)
def b8i (n:Nat) (s s':S):Prop:=∀(I0:Nat→Nat→Prop) (X:Nat→Prop) (w0:W0) (a:Act) (w:World),w0.n≤n→Rel I0 X w0 s a w→Rel I0 X w0 s' a w
def FW (ro:Option Nat):Fence:={ Fence.wide with round:=ro }
def f7:Ar where
 wrap:=IntKind.wrap
 add x y:=x+y
 sub x y:=x - y
 mul x y:=x * y
 quo x y:=x.tdiv y
 rem x y:=x.tmod y
 bits:=M1
 lt x y:=decide (x<y)
 le x y:=decide (x≤y)
 eq x y:=x == y
 nz y k:=y≠0∧k
 seq x y:=x == y
 slt x y:=Op.bytesLess x y
 bytes b:=b.toList
 cat x y:=x++y
 fits x y k:=x.size+y.size≤4611686018427387904∧k
 slen b:=(b.size:Int)
 sget b n:=if 0≤n then (b[n.toNat]?).map fun c=>(c.toNat:Int) else none
 ssub b l h:=if 0≤l∧l≤h∧h≤b.size then some (b.extract l.toNat h.toNat) else none
 txt:=a3z
 byt:=a7n
 nat n m:=if 0≤n∧n<m then some n.toNat else none
 len rows:=(rows.length:Int)
 get rows n:=if 0≤n then rows[n.toNat]? else none
 sub2 rows l h:=if 0≤l∧l≤h∧h≤rows.length then some ((rows.drop l.toNat).take (h.toNat - l.toNat)) else none
 app xs ys:=xs++ys
 set xs n y:=xs.set n.toNat y
 room xs ys k:=xs.length+ys.length≤137438953472∧k
 mlook:=a3O
 mput:=a2N
 deq x y:=b3q y x
 rep n z k:=(0≤n∧n≤16777216∧n.toNat * z.length≤16777216)∧k (List.replicate n.toNat z)
 call f rs K:=∃q,A0 f rs q∧K q
 calld f vs o K:=∃x,a71 f vs o x∧K x
 callo f vs s K:=L8 f vs s.o fun v o' ks=>K v ⟨A2 ks s.t,o'⟩
 callx f vs l s K:=a1F f vs s.o fun v o'=>a2r l s.t s.o o'∧K v ⟨s.t,o'⟩
 lit _ K:=∃c,K c
 keep n Q res s:=∃ks res' os',KeepOk n ks res' os' res s∧Q res' os'
 new _ K:=∃z,K z
 next N s:=∃F:S→Prop,c4g s F∧∀s',F s'→N s'
 reg ops s K:=∀(I0:Nat→Nat→Prop) (X:Nat→Prop) (w0:W0) (a:Act) (w:World) (ro:Option Nat) (n:Nat) (Q:Exit→Act→World→Prop),(∀o∈ops.toList,a05 Try.prog o.op=true)→Rel I0 X w0 s a w→(∀s' a' w',Rel I0 X w0 s' a' w'→K s'→Q .normal a' w')→wpAnyIn (FW ro) n Try.prog .any ops Q ops.size (Array.replicate ops.size false) a w
 ext op dst s K:=∀(I0:Nat→Nat→Prop) (X:Nat→Prop) (w0:W0) (a:Act) (w:World) (o:Oper) (Q:Exit→Act→World→Prop),o.op=op→o.dst=dst→a05 Try.prog op=true→Rel I0 X w0 s a w→o.wp Try.prog a w (fun a' w'=>∃s',Rel I0 X w0 s' a' w'∧K s') Q
 loop _ body s K:=b1O weak body s K∨b1O Eq body s K∨b1O (b8i (m7 s.o)) body s K
theorem a72 {f:Nat} {vs:List V} {o:List O} {rs q:List R} (h:A0 f rs q) (hr:a9d o vs=some rs):L8 f vs o fun x o' ks=>x=b5Z q∧o'=o∧ks=[] :=
 ⟨h.1,fun I0 X w0 I g t a w us hrel hv=>by
  refine (h.2 I w us hrel.wld (b03 hrel hv hr)).mono ?_
  rintro e w' ⟨v,rfl,hres,hbel⟩
  exact ⟨v,_,o,[],_,g,rfl,hrel.grow hbel (I':=nxt I w w') (fun _ _ h=>.inl h) (fun _ _ h=>h),b42 g hres,rfl,rfl,rfl⟩⟩
def A4 (f:Nat) (vs:List V) (os:List O) (Q:List V→List O→Prop):Prop:=a2q Try.prog f=true∧∀(I:Nat→Nat→Prop) (w:World) (g:Nat→Value) (args:List Value),
 RelI I (Xof g os) ⟨w,g,os.length,[]⟩ I g ⟨vs,os⟩ { tmps:=args.toArray,defers:=[] } w →
 Calls Try.prog f args.toArray w fun e w'=>∃us res os2 I' g',e=.returned (pkg us)∧(Q res os2∧∀i,i<os.length→g' i=g i)∧RelI I (Xof g os) ⟨w,g,os.length,[]⟩ I' g' ⟨res,os2⟩ { tmps:=us.toArray,defers:=[] } w'
theorem a2X {f:Nat} {vs vs':List V} {os':List O} {s:S} {ks:List Nat} {Q:List V→List O→Prop} (h:A4 f vs' os' Q) (hs:SubOk ks vs' os' vs s):L8 f vs s.o fun x o' ks'=>ks'=[]∧∃res os2,Q res os2∧x=Z8 (upT ks (m7 s.o) res)∧o'=E7 ks (N8 ks (m7 s.o) os2) s.o :=
 ⟨h.1,fun I0 X w0 I g t a w us hrel hv=>by
  have hs':SubOk ks vs' os' vs ⟨t,s.o⟩:=⟨hs.nd,hs.len,hs.args,hs.objs,hs.al,hs.low,hs.lowo⟩
  refine (h.2 I w (sub ks g) us (b8h hrel hs' hv)).mono ?_
  rintro e w' ⟨us2,res,os2,I',g1,rfl,⟨hQ,hst⟩,h1⟩
  obtain ⟨g2,-,h3,h4⟩:=called hrel hs' h1
  have hm:=hs.len
  rw [o9,H4] at hm
  exact ⟨_,_,_,[],I',g2,rfl,h4 fun i k hi=>by
   have hlt:=(c8S.1 hi).1
   rw [hst i (by omega)]
   unfold sub
   rw [hi],h3,rfl,res,os2,hQ,rfl,rfl⟩⟩
theorem b1P {f:Nat} {vs vs':List V} {os':List O} {s:S} {ks:List Nat} {Q:List V→List O→Prop} (h:n7 f vs' os' Q) (hs:SubOk ks vs' os' vs s):L8 f vs s.o fun x o' ks'=>ks'=ks∧∃res os2,Q res os2∧x=Z8 (upT ks (m7 s.o) res)∧o'=E7 ks (N8 ks (m7 s.o) os2) (T0 ks s.o) :=
 ⟨h.1,fun I0 X w0 I g t a w us hrel hv=>by
  have hs':SubOk ks vs' os' vs ⟨t,s.o⟩:=⟨hs.nd,hs.len,hs.args,hs.objs,hs.al,hs.low,hs.lowo⟩
  refine (h.2 I w (sub ks g) us (b8h hrel hs' hv)).mono ?_
  rintro e w' ⟨us2,res,os2,I',g1,rfl,hQ,h1⟩
  obtain ⟨g2,h2,h3,-⟩:=called hrel hs' h1
  exact ⟨_,_,_,ks,I',g2,rfl,h2,h3,rfl,res,os2,hQ,rfl,rfl⟩⟩
end
section
section
variable {I0:Nat→Nat→Prop} {X:Nat→Prop} {w0:W0} {I:Nat→Nat→Prop} {g:Nat→Value} {s:S} {a:Act} {w:World}
theorem b46 {v:Value} {x:V} (h:AtV I w g v x) (h1:b5Y x=true):v.oneCell'=true:=by
 cases h with
 | d h=>exact h.one
 | ag=>cases h1
 | tu=>cases h1
 | em=>rfl
 | own=>rfl
 | ptr=>rfl
 | cl=>rfl
 | el=>rfl
 | ro=>rfl
 | mp=>rfl
 | bs=>rfl
 | jk=>cases h1
theorem b08:∀ {l:List V} {us:List Value},j8 I w g us l→a3N l=true→∀u∈us,u.oneCell'=true
 | [],us,h,_=>by rw [h.unnil];simp
 | x::l,us,h,h1=>by
  obtain ⟨u,us',rfl,h2,h3⟩:=h.uncons
  rw [a3N] at h1
  split at h1
  ·rename_i hx
   intro y hy
   rcases c9e.1 hy with rfl|hy
   ·exact b46 h2 hx
   ·exact b08 h3 h1 y hy
  ·cases h1
theorem a4N {v:Value} {x:V} {cs:List V} (h:AtV I w g v x) (hc:a1j x=some cs):∃us,v.cells=us.toArray∧j8 I w g us cs∧∀u∈us,u.oneCell'=true:=by
 have single:b5Y x=true→cs=[x]→∃us,v.cells=us.toArray∧j8 I w g us cs∧∀u∈us,u.oneCell'=true:=fun h1 e=>by
  subst e
  have hv:=b46 h h1
  refine ⟨[v],?_,.cons h (.nil I w g),fun u hu=>by simp at hu;subst hu;exact hv⟩
  cases v <;> first|rfl|cases hv
 cases x with
 | ag l =>
  rw [a1j] at hc
  split at hc
  ·rename_i h1
   injection hc with hc
   subst hc
   obtain ⟨us,rfl,h2⟩:=h.unag
   exact ⟨us,rfl,h2,b08 h2 h1⟩
  ·cases hc
 | jk=>cases hc
 | tu l=>cases hc
 | d x=>injection hc with hc;exact single rfl hc.symm
 | em=>injection hc with hc;exact single rfl hc.symm
 | bs k n=>injection hc with hc;exact single rfl hc.symm
 | own k=>injection hc with hc;exact single rfl hc.symm
 | ptr k off=>injection hc with hc;exact single rfl hc.symm
 | cl f ks=>injection hc with hc;exact single rfl hc.symm
 | el k i sz off=>injection hc with hc;exact single rfl hc.symm
 | ro l off=>injection hc with hc;exact single rfl hc.symm
 | mp k=>injection hc with hc;exact single rfl hc.symm
def Yld (I0:Nat→Nat→Prop) (X:Nat→Prop) (w0:W0) (g:Nat→Value) (s:S) (a:Act) (w:World) (m:Sem Value) (K:V→Prop):Prop:=∃v x w' I',m.run Try.prog w=.ok v w'∧RelI I0 X w0 I' g s a w'∧AtV I' w' g v x∧K x
theorem yld {m:Sem Value} {K:V→Prop} (h:RelI I0 X w0 I g s a w) {v:Value} {x:V} (hm:m.run Try.prog w=.ok v w) (hv:AtV I w g v x) (hK:K x):Yld I0 X w0 g s a w m K:=⟨v,x,w,I,hm,h,hv,hK⟩
theorem atb (b:Bool):AtV I w g (.bool b) (vb b):=.d (.sc _ rfl)
theorem ati (k:IntKind) (n:Int):AtV I w g (.int k n) (vi k n):=.d (.sc _ rfl)
theorem ats (b:ByteArray):AtV I w g (.string b) (vs b):=.d (.sc _ rfl)
theorem AtV.sc {v u:Value} (h:AtV I w g v (.d (.sc u))):v=u:=by cases h with|d h=>cases h;rfl
theorem b3u {rows:List (List D)} {i:Int} {row:List D} (h:f7.get rows i=some row):0≤i∧rows[i.toNat]?=some row:=by
 simp only [f7] at h
 split at h
 ·exact ⟨by assumption,h⟩
 ·cases h
theorem a5O (h:RelI I0 X w0 I g s a w) {K:V→Prop} {t:Nat} (ht:f9 t=true) {v:Value} {x:V} (hv:AtV I w g v x) (hK:G3 f7 s.o K t x):∃u y,(Instr.loadAt t v).run Try.prog w=.ok u w∧AtV I w g u y∧K y:=by
 cases x <;> try exact hK.elim
 case ptr k off =>
  simp only [G3] at hK
  split at hK <;> try exact hK.elim
  rename_i cs ho
  split at hK <;> try exact hK.elim
  rename_i l hl
  split at hK <;> try exact hK.elim
  rename_i x hx
  obtain ⟨b,us,t',h1,h2,h3,_⟩:=h.obj k _ (A6 ho (by simp))
  cases hv with
  | ptr k off b' hg =>
   rw [h1] at hg
   injection hg with hg
   injection hg with hg
   injection hg with hg
   subst hg
   rw [a02] at hl
   obtain ⟨e,he⟩:=a03 hl
   have hu:j8 I w g ((us.drop off).take (ty t).sz) l:=by rw [e];exact (h3.drop off).take _
   obtain ⟨v,h4,h5⟩:=b02 (w:=w) (b:=b) (p:=off) ht (by rw [hu.1,he]) (fun j u hj=>by
    rw [c91] at hj
    split at hj
    ·rw [c9x] at hj
     rw [cell_of_row w b (off+j) (us++t'.2).toArray t'.1 (0,0) h2]
     have hlt:=(c8S.1 hj).1
     simp only [d0B]
     rw [c9l hlt]
     exact hj
    ·cases hj) hu hx
   exact ⟨v,x,h4,h5,hK⟩
 case ro cs off =>
  simp only [G3] at hK
  split at hK <;> try exact hK.elim
  rename_i l hl
  split at hK <;> try exact hK.elim
  rename_i x hx
  cases hv with
  | ro b o off us cs hI hc hd =>
   rw [a02] at hl
   obtain ⟨e,he⟩:=a03 hl
   have hu:B0 I w ((us.drop off).take (ty t).sz) l:=by rw [e];exact (hd.drop off).take _
   obtain ⟨v,h4,h5⟩:=b02 (w:=w) (b:=b) (p:=o+off) ht (by rw [hu.1,he]) (fun j u hj=>by
    rw [c91] at hj
    split at hj
    ·rw [c9x] at hj
     rw [c9S]
     exact hc _ _ hj
    ·cases hj) (hu.toV g) hx
   exact ⟨v,x,h4,h5,hK⟩
 case el k i sz off =>
  simp only [G3] at hK
  split at hK <;> try exact hK.elim
  rename_i z e rows ho
  split at hK <;> try exact hK.elim
  rename_i hsz
  rw [C1] at hsz
  split at hK <;> try exact hK.elim
  rename_i row hrow
  split at hK <;> try exact hK.elim
  rename_i l hl
  split at hK <;> try exact hK.elim
  rename_i x hx
  obtain ⟨us,h1,h2,h3,_⟩:=h.obj k _ (A6 ho (by simp))
  have hrow':=b3u hrow
  cases hv with
  | el k i sz off b n cap hg =>
   rw [hg] at h1
   obtain ⟨A',cap',e0⟩:=a1a h1
   injection e0 with _ e0 _
   subst e0
   rw [a02] at hl
   obtain ⟨e1,he⟩:=a03 hl
   have hrl:=h2 _ (c9h hrow'.2)
   have hlt:i.toNat<rows.length:=(c8S.1 hrow'.2).1
   have hfit:off+(ty t).sz≤(ty e).sz∨(ty t).sz=0:=by
    rw [e1,c92,c9z,hrl] at he
    omega
   have hsub:i.toNat * (ty e).sz+(ty e).sz≤rows.length * (ty e).sz:=by rw [←c9M];exact c9C _ hlt
   rw [←hsz]
   have hu:B0 I w ((us.drop (i.toNat * (ty e).sz+off)).take (ty t).sz) l:=by
    refine ⟨by rw [c92,c9z,h1.1,he];omega,fun j u d hj hd=>?_⟩
    rw [c91] at hj
    split at hj
    ·rename_i hjl
     rw [c9x,c9S] at hj
     refine h3.2 _ _ _ hj ?_
     rw [a00 h2 hrow'.2 (by omega)]
     rw [e1,c91,c8Y hjl,c9x] at hd
     exact hd
    ·cases hj
   obtain ⟨v,h4,h5⟩:=b02 (w:=w) (b:=b) (p:=i.toNat * (ty e).sz+off) ht (by rw [hu.1,he]) (fun j u hj=>by
    rw [c91] at hj
    split at hj
    ·rename_i hjl
     rw [c9x] at hj
     have hin:i.toNat * (ty e).sz+off+j<rows.length * (ty e).sz:=by omega
     rw [World.ownsRow.cellAt h1 _ hin]
     exact hj
    ·cases hj) (hu.toV g) hx
   exact ⟨v,x,h4,h5,hK⟩
theorem c1l (h:RelI I0 X w0 I g s a w) {K:V→Prop} {t:Nat} (ht:f9 t=true) {v:Value} {x:V} (hv:AtV I w g v x) (hK:G3 f7 s.o K t x):Yld I0 X w0 g s a w (Instr.loadAt t v) K:=by
 obtain ⟨u,y,h1,h2,h3⟩:=a5O h ht hv hK
 exact yld h h1 h2 h3
theorem b8j (h:RelI I0 X w0 I g s a w) {K:V→Prop} {t i:Nat} (ht:f9 t=true) {v:Value} {x:V} (hv:AtV I w g v x) (hK:N7 K t i x):Yld I0 X w0 g s a w (Instr.fieldAt t v i) K:=by
 simp only [N7] at hK
 split at hK <;> try exact hK.elim
 rename_i off sz hf
 obtain ⟨fs,f,h1,h2,h3,h4,_⟩:=b8c ht (a1T hf)
 have hs:(sizeOf f.type).run Try.prog w=.ok (sz+1) w:=by
  cases hi:Try.prog.info? f.type with
  | none=>rw [hi] at h4;cases h4
  | some i=>rw [hi] at h4;simp only [d0b,Option.some.injEq] at h4;simp [sizeOf,typeInfo,hi,h4]
 have key:∀b p,(Instr.fieldAt t (.pointer (some ⟨b,p,none⟩)) i).run Try.prog w=.ok (.pointer (some ⟨b,p+off,none⟩)) w:=fun b p=>by
  simp [Instr.fieldAt,run_underlying h1,h2,Instr.sureAddr,fieldPlace,hs,Addr.add_lit,h3]
 cases x <;> try exact hK.elim
 case ptr k o =>
  cases hv with
  | ptr k o b hg=>exact yld h (key b o) (.ptr k (o+off) b hg) hK
 case el k i sz o =>
  cases hv with
  | el k i sz o b n cap hg=>exact yld h (key b _) (by rw [c9S];exact .el k i sz (o+off) b n cap hg) hK
 case ro cs o =>
  cases hv with
  | ro b o' off' us cs hI hc hd=>exact yld h (key b _) (by rw [c9S];exact .ro b o' (o+off) us cs hI hc hd) hK
theorem c1m (h:RelI I0 X w0 I g s a w) {K:V→Prop} {t i:Nat} (ht:f9 t=true) (hty:∀u,(ty t).fty[i]?=some u→f9 u=true) {v:Value} {x:V} (hv:AtV I w g v x) (hK:b1E K t i x):Yld I0 X w0 g s a w (Instr.field t v i) K:=by
 simp only [b1E] at hK
 split at hK <;> try exact hK.elim
 rename_i u off sz cs hu hf
 split at hK <;> try exact hK.elim
 rename_i l hl
 split at hK <;> try exact hK.elim
 rename_i y hy
 obtain ⟨fs,f,h1,h2,h3,h4,h5,_⟩:=b8c ht (a1T hf)
 have h6:=a1T hu
 rw [h5] at h6
 injection h6 with h6
 subst h6
 have hku:=hty _ h5
 obtain ⟨us,rfl,h7⟩:=hv.unag
 rw [a02] at hl
 obtain ⟨e,he⟩:=a03 hl
 have hul:j8 I w g ((us.drop off).take (ty f.type).sz) l:=by rw [e];exact (h7.drop off).take _
 obtain ⟨hx,hone⟩:=b01 hul hy
 refine yld h ?_ hx hK
 simp only [Instr.field,Sem.run_bind,run_underlying h1,Result.andThen_ok,h2,asAgg,Sem.run_pure,part,b00 hku,h3]
 cases hag:(ty f.type).agg with
 | true =>
  have hsz:=M2 hku w
  simp [hsz]
 | false =>
  have hlen:=hone hag
  simp only [d0r,d1r]
  have hlt:off<us.length:=by
   rw [c92,c9z] at hlen
   omega
  have:us.toArray[off]?=some (((us.drop off).take (ty f.type).sz).getD 0 undef):=by
   simp only [d0B,c9k,c91,c9x,d0g]
   have hsz:0<(ty f.type).sz:=by rw [c92] at hlen;omega
   rw [c8Y hsz,c8T hlt]
   rfl
  rw [this]
  rfl
theorem b09 (h:RelI I0 X w0 I g s a w) {v:Value} {x:V} {o:Option Nat} {rows:List (List D)} (hv:AtV I w g v x) (hr:K7 s.o x=some (o,rows)):AtD I w v (.sl (o.getD 0) rows)∧(o=none→rows=[]):=by
 cases x with
 | d x =>
  cases x with
  | sc u=>simp [K7] at hr
  | sl sz rows' =>
   simp only [K7,Option.some.injEq,Prod.mk.injEq] at hr
   obtain ⟨rfl,rfl⟩:=hr
   cases hv with
   | d h=>exact ⟨h,by simp⟩
 | em =>
  simp only [K7,Option.some.injEq,Prod.mk.injEq] at hr
  obtain ⟨rfl,rfl⟩:=hr
  cases hv
  exact ⟨.nil _ _ _,fun _=>rfl⟩
 | own k =>
  have hr':=hr
  simp only [K7] at hr
  split at hr
  ·rename_i e rows' ho
   simp only [Option.some.injEq,Prod.mk.injEq] at hr
   obtain ⟨rfl,rfl⟩:=hr
   refine ⟨a7u h hv ?_,by simp⟩
   simp only [toD,ho]
   rfl
  ·cases hr
 | ag cs=>simp [K7] at hr
 | tu cs=>simp [K7] at hr
 | ptr k off=>simp [K7] at hr
 | cl f ks=>simp [K7] at hr
 | el k i sz off=>simp [K7] at hr
 | ro cs off=>simp [K7] at hr
 | mp k=>simp [K7] at hr
 | bs k n=>simp [K7] at hr
 | jk=>simp [K7] at hr
theorem b47 {sz:Nat} {o:Option Nat} {v:Value} {rows:List (List D)} (hs:c1g sz o=true) (h:AtD I w v (.sl (o.getD 0) rows)) (hn:o=none→rows=[]):AtD I w v (.sl sz rows):=by
 cases o with
 | none =>
  rw [hn rfl] at h ⊢
  obtain ⟨A,cap,rfl,-⟩:=h.slice
  exact .nil _ _ _
 | some n =>
  rw [c1g,C1] at hs
  subst hs
  exact h
theorem b8k (h:RelI I0 X w0 I g s a w) {K:V→Prop} {t:Nat} (ht:f9 t=true) (hte:∀e,(ty t).elem=some e→f9 e=true) (htv:(ty t).kind=.array→∀e,(ty t).val=some e→f9 e=true) {v u:Value} {x i:V} (hv:AtV I w g v x) (hu:AtV I w g u i) (hK:y8 f7 s.o K t x i):Yld I0 X w0 g s a w (Instr.indexAt t v u) K:=by
 simp only [y8] at hK
 split at hK <;> try exact hK.elim
 rename_i k n
 split at hK
 ·rename_i hkd
  split at hK <;> try exact hK.elim
  rename_i e he
  split at hK <;> try exact hK.elim
  rename_i j hj
  have hun:=a7t ht hkd he
  have hu':=hu.sc
  subst hu'
  have hn:(0≤n∧n<((ty t).alen:Int))∧n.toNat=j:=by
   simp only [f7] at hj
   split at hj
   ·rename_i h1;injection hj with hj;exact ⟨h1,hj⟩
   ·cases hj
  obtain ⟨hn,rfl⟩:=hn
  have key:∀b p,(Instr.indexAt t (.pointer (some ⟨b,p,none⟩)) (.int k n)).run Try.prog w=.ok (.pointer (some ⟨b,p+n.toNat * (ty e).sz,none⟩)) w:=fun b p=>by
   simp [Instr.indexAt,asIntOf,run_underlying hun,hn,Instr.sureAddr,M2 (htv hkd e he),Addr.add_lit]
  cases x <;> try exact hK.elim
  case ptr k' o =>
   cases hv with
   | ptr k' o b hg=>exact yld h (key b o) (.ptr k' _ b hg) hK
  case el k' i sz o =>
   cases hv with
   | el k' i sz o b n' cap hg=>exact yld h (key b _) (by rw [c9S];exact .el k' i sz _ b n' cap hg) hK
  case ro cs o =>
   cases hv with
   | ro b o' off' us cs hI hc hd=>exact yld h (key b _) (by rw [c9S];exact .ro b o' _ us cs hI hc hd) hK
 split at hK <;> try exact hK.elim
 rename_i e he
 split at hK
 ·rename_i k' m hbs
  split at hK <;> try exact hK.elim
  rename_i j hj
  have hx:x=.bs k' m:=by
   unfold bsV at hbs
   split at hbs
   ·injection hbs with hbs
    injection hbs with e1 e2
    rw [e1,e2]
   ·cases hbs
  subst hx
  obtain ⟨b,cap,hg,rfl,hle⟩:=hv.unbs
  have hu':=hu.sc
  subst hu'
  have hn:(0≤n∧n<(m:Int))∧n.toNat=j:=by
   simp only [f7] at hj
   split at hj
   ·rename_i h1;injection hj with hj;exact ⟨h1,hj⟩
   ·cases hj
  obtain ⟨hn,rfl⟩:=hn
  have hun:=H5 ht he
  refine yld h (v:=.pointer (some ⟨b,n.toNat * (ty e).sz,none⟩)) ?_ (.ptr k' _ b hg) hK
  simp [Instr.indexAt,asIntOf,run_underlying hun,hn,M2 (hte e he),Addr.add_lit]
 split at hK
 ·rename_i k' e' rows hr
  split at hK <;> try exact hK.elim
  rename_i hee
  rw [C1] at hee
  subst hee
  split at hK <;> try exact hK.elim
  rename_i row hrow
  have hrow':=b3u hrow
  have hu':=hu.sc
  subst hu'
  unfold a6F at hr
  split at hr <;> try cases hr
  rename_i k1
  split at hr <;> cases hr
  rename_i ho
  obtain ⟨us,h1,h2,h3,_⟩:=h.obj k' _ (A6 ho (by simp))
  obtain ⟨rfl,A,m,cap,hg⟩:=hv.unown
  rw [a1E h1] at hg ⊢
  have hlt:n.toNat<rows.length:=(c8S.1 hrow'.2).1
  have hn:0≤n∧n<(rows.length:Int):=⟨hrow'.1,by omega⟩
  have hun:=H5 ht he
  rcases h1.2 with ⟨_,e2⟩|⟨b,cap',cur,e1,_⟩
  ·omega
  ·refine yld h (v:=.pointer (some ⟨b,n.toNat * (ty e').sz+0,none⟩)) ?_ (.el k' n (ty e').sz 0 b _ cap' e1) hK
   rw [e1]
   simp [Instr.indexAt,asIntOf,run_underlying hun,hn,M2 (hte e' he),Addr.add_lit]
 split at hK <;> try exact hK.elim
 rename_i sz rows hr
 split at hK <;> try exact hK.elim
 rename_i hsz
 rw [C1] at hsz
 subst hsz
 split at hK <;> try exact hK.elim
 rename_i row hrow
 obtain ⟨h1,_⟩:=b09 h hv hr
 simp only [d1c] at h1
 have hrow':0≤n∧rows[n.toNat]?=some row:=by
  simp only [f7] at hrow
  split at hrow
  ·exact ⟨by assumption,hrow⟩
  ·cases hrow
 have hu':=hu.sc
 subst hu'
 have hlt:n.toNat<rows.length:=(c8S.1 hrow'.2).1
 obtain ⟨A,cap,rfl,hcap,h2⟩:=h1.slice
 rcases h2 with rfl|⟨b,off,us,rfl,hI,hrl,hl,hc,hd⟩
 ·simp at hlt
 ·have hn:0≤n∧n<(rows.length:Int):=⟨hrow'.1,by omega⟩
  have hun:=H5 ht he
  have hrsz:=hrl _ (c9h hrow'.2)
  refine yld h (v:=.pointer (some ⟨b,off+n.toNat * (ty e).sz,none⟩)) ?_ (.ro b (off+n.toNat * (ty e).sz) 0 ((us.drop (n.toNat * (ty e).sz)).take (ty e).sz) row ?_ (fun j y hy=>?_) ⟨?_,fun j y d hy hdj=>?_⟩) hK
  ·simp [Instr.indexAt,asIntOf,run_underlying hun,hn,M2 (hte e he),Addr.add_lit]
  ·refine hI.down ?_
   rw [hrsz]
   have:n.toNat * (ty e).sz+(ty e).sz≤rows.length * (ty e).sz:=by rw [←c9M];exact c9C _ hlt
   omega
  ·rw [c91] at hy
   split at hy
   ·rw [c9x] at hy
    rw [c9S]
    exact hc _ _ hy
   ·cases hy
  ·rw [c92,c9z,hl,hrsz]
   have:n.toNat * (ty e).sz+(ty e).sz≤rows.length * (ty e).sz:=by rw [←c9M];exact c9C _ hlt
   omega
  ·rw [c91] at hy
   split at hy
   ·rename_i hj
    rw [c9x] at hy
    exact hd.2 _ _ _ hy (by rw [a00 hrl hrow'.2 hj];exact hdj)
   ·cases hy
end
end
section
theorem a74 {j k:IntKind} (h:keq j k=true):j=k:=by cases j <;> cases k <;> first|rfl|cases h
theorem a1G (b c:Bool):bEq b c=(b == c):=by cases b <;> cases c <;> rfl
theorem b1Q {t:Nat} (h:f9 t=true) {d:TypeDesc} (hu:Try.prog.underlying t=some d) (hd:b19 (some d)=some false):(ty t).agg=false:=by
 have:=(a3M t h).agg
 rw [hu,hd] at this
 exact (Option.some.inj this).symm
def K5:D→Value
 | .sc v=>v
 | .sl _ _=>.nilFunc
def a0H:R→Value
 | .one d=>K5 d
 | .ag ds=>.agg (ds.map K5).toArray
theorem a9v {k:TK} {d:D} (h:a0p k d=true):∃v,d=.sc v:=by
 cases d with
 | sc v=>exact ⟨v,rfl⟩
 | sl sz rows=>cases k <;> cases h
theorem a75:∀ {us:List Nat} {fs:List (Nat×Nat)} {n:Nat} {ds:List D},P3 us fs n ds=true→∀d∈ds,∃v,d=.sc v
 | [],[],n,[],_=>by simp
 | u::us,(off,1)::fs,n,d::ds,h=>by
  rw [P3] at h
  split at h
  ·split at h
   ·rename_i h1
    intro x hx
    rcases c9e.1 hx with rfl|hx
    ·exact a9v h1
    ·exact a75 h x hx
   ·cases h
  ·cases h
theorem c4h {t:Nat} {r:R} (h:a2F t r=true):(∃v,r=.one (.sc v))∨∃ds,r=.ag ds∧∀d∈ds,∃v,d=.sc v:=by
 cases r with
 | one d=>obtain ⟨v,rfl⟩:=a9v h;exact .inl ⟨v,rfl⟩
 | ag ds =>
  rw [a2F] at h
  split at h
  ·split at h
   ·exact .inr ⟨ds,rfl,a75 h⟩
   ·cases h
  ·cases h
section
variable {I:Nat→Nat→Prop} {w:World}
theorem AtD.val {v:Value} {u:Value} (h:AtD I w v (.sc u)):v=u:=by cases h;rfl
theorem a34 {t:Nat} {v:Value} {r:R} (h:AtR I w v r) (hk:a2F t r=true):v=a0H r:=by
 rcases c4h hk with ⟨u,rfl⟩|⟨ds,rfl,hs⟩
 ·exact AtD.val h
 ·obtain ⟨us,rfl,hl,hd⟩:=h
  have:us=ds.map K5:=by
   refine d0j fun i=>?_
   rw [c9v]
   cases hi:ds[i]? with
   | none =>
    rw [List.getElem?_eq_none_iff] at hi
    rw [c9H (by omega)]
    rfl
   | some d =>
    have hlt:i<us.length:=by rw [hl];exact (c8S.1 hi).1
    obtain ⟨u,rfl⟩:=hs d (c9h hi)
    rw [c8T hlt]
    exact congrArg some (hd i _ _ (c8T hlt) hi).val
  rw [this]
  rfl
end
theorem b1R (m n:Nat):b4y m n=(m == n):=by
 rw [d09,d0c]
 exact ⟨d1a,fun h=>by rw [h];exact Nat.beq_refl n⟩
theorem a4O (m n:Int):b7L m n=(m == n):=by
 rw [d09,d0c]
 cases m <;> cases n <;> simp [b7L,b1R]
 exact Int.ofNat_inj.symm
theorem a2s:∀x y:List UInt8,a6N x y=(x == y)
 | [],[]=>rfl
 | [],_::_=>rfl
 | _::_,[]=>rfl
 | x::l,y::m=>by
  rw [a6N,b1R,a2s l m]
  by_cases h:x=y
  ·subst h;simp
  ·have h1:(x.toNat == y.toNat)=false:=c94.2 fun e=>h (d1l.1 e)
   have h2:(x::l == y::m)=false:=c94.2 fun e=>h (by injection e)
   rw [h1,h2]
theorem a76 (x y:ByteArray):(x == y)=(x.data.toList == y.data.toList):=by
 rw [beq_toListBytes,ByteArray.toList_eq,ByteArray.toList_eq]
structure ScalOk (t:Nat) (x y:D) (d:TypeDesc):Prop where
 un:Try.prog.underlying t=some d
 ag:b19 (some d)=some false
 now:Instr.sameNow d (K5 x) (K5 y)=some (dEq y x)
 eq:∀(n:Nat) (w:World),(Op.equalIn (n+1) t (K5 x) (K5 y)).run Try.prog w=.ok (dEq y x) w
 chk:∀(e:Bool) (n:Nat) (w:World),(Instr.checkKey e (n+1) t (K5 x)).run Try.prog w=.ok () w
 bits:∀n,Instr.sameBits n (K5 x) (K5 x)=true
theorem a4P {k:TK} {d:D} (h:a0p k d=true):(∃q m,k=.int q∧d=.sc (.int q m))∨(∃s,k=.str∧d=.sc (.string s))∨∃b,k=.bool∧d=.sc (.bool b):=by
 unfold a0p at h
 split at h
 ·rename_i q q' m
  obtain rfl:=a74 h
  exact .inl ⟨_,m,rfl,rfl⟩
 ·exact .inr (.inl ⟨_,rfl,rfl⟩)
 ·exact .inr (.inr ⟨_,rfl,rfl⟩)
 ·cases h
theorem a35 {t:Nat} (ht:f9 t=true) {x y:D} (hx:a0p (ty t).kind x=true) (hy:a0p (ty t).kind y=true):∃d,ScalOk t x y d:=by
 rcases a4P hx with ⟨q,m,hk,rfl⟩|⟨m,hk,rfl⟩|⟨m,hk,rfl⟩ <;> rcases a4P hy with ⟨q',n,hk',rfl⟩|⟨n,hk',rfl⟩|⟨n,hk',rfl⟩ <;> rw [hk] at hk' <;> first|cases hk';done|skip
 ·injection hk' with hk'
  subst hk'
  have hu:=a5G ht hk
  refine ⟨_,hu,rfl,?_,fun n w=>?_,fun e n w=>?_,fun n=>?_⟩
  ·simp only [Instr.sameNow,K5,dEq,a4O,d0V]
   rw [BEq.comm]
  ·simp only [Op.equalIn,run_underlying hu,K5,dEq,a4O,Sem.run_bind,Result.andThen_ok,d0V,Sem.run_pure]
   rw [BEq.comm]
  ·simp [Instr.checkKey,run_underlying hu,K5]
  ·cases n <;> simp [Instr.sameBits,K5]
 ·have hu:=a4g ht hk
  refine ⟨_,hu,rfl,?_,fun n w=>?_,fun e n w=>?_,fun n=>?_⟩
  ·simp only [Instr.sameNow,K5,dEq,a2s,a76]
   rw [BEq.comm]
  ·simp only [Op.equalIn,run_underlying hu,K5,dEq,a2s,a76,Sem.run_bind,Result.andThen_ok,Sem.run_pure]
   rw [BEq.comm]
  ·simp [Instr.checkKey,run_underlying hu,K5]
  ·have h0:(m == m)=true:=by rw [a76];simp
   cases n <;> exact h0
 ·have hu:=b41 ht hk
  refine ⟨_,hu,rfl,?_,fun n w=>?_,fun e n w=>?_,fun n=>?_⟩
  ·simp only [Instr.sameNow,K5,dEq,a1G]
   rw [BEq.comm]
  ·simp only [Op.equalIn,run_underlying hu,K5,dEq,a1G,Sem.run_bind,Result.andThen_ok,Sem.run_pure]
   rw [BEq.comm]
  ·simp [Instr.checkKey,run_underlying hu,K5]
  ·cases n <;> simp [Instr.sameBits,K5]
theorem a5P {u:Nat} {us:Array Value} {off:Nat} {v:Value} {w:World} (h:(ty u).agg=false) (hu:f9 u=true) (hv:us[off]?=some v):(part u us off).run Try.prog w=.ok v w:=by
 simp only [part,Sem.run_bind,b00 hu,h,Result.andThen_ok,d0r,d1r,hv,Sem.run_pure]
def FOk:List Field→Nat→List D→Prop
 | [],_,[]=>True
 | f::fs,n,d::ds=>f.offset=n∧f9 f.type=true∧(f.name != "_")=true∧a0p (ty f.type).kind d=true∧FOk fs (n+1) ds
 | _,_,_=>False
theorem b8l:∀ {fs:List Field} {fl:List (Nat×Nat)} {n:Nat} {ds:List D},fs.map (·.offset)=fl.map (·.1)→(∀f∈fs,f9 f.type=true∧(f.name != "_")=true)→P3 (fs.map (·.type)) fl n ds=true→FOk fs n ds
 | [],[],n,[],_,_,_=>trivial
 | [],[],n,_::_,_,_,h=>by cases h
 | [],_::_,n,ds,h,_,_=>by cases h
 | f::fs,[],n,ds,h,_,_=>by cases h
 | f::fs,(off,sz)::fl,n,ds,ho,hk,h=>by
  rw [c9m,c9m] at ho
  injection ho with ho1 ho2
  simp only at ho1
  rw [c9m] at h
  unfold P3 at h
  split at h
  ·contradiction
  ·rename_i u us off' fs' n' d ds e1 e2
   injection e1 with e1 e3
   injection e2 with e2 e4
   injection e2 with e2 e5
   subst e1;subst e3;subst e4;subst e2
   split at h
   ·rename_i h1
    split at h
    ·rename_i h2
     rw [C1] at h1
     exact ⟨ho1.trans h1,(hk f (c8V ..)).1,(hk f (c8V ..)).2,h2,b8l ho2 (fun f hf=>hk f (c8X _ hf)) h⟩
    ·cases h
   ·cases h
  ·cases h
section
variable {w:World}
theorem a9w:∀ {fs:List Field} {n:Nat} {xs ys:List D} {us vs:List D},us.length=n→vs.length=n→FOk fs n xs→FOk fs n ys→∀m,(Op.eqFields (m+1) ((us++xs).map K5).toArray ((vs++ys).map K5).toArray fs).run Try.prog w=.ok (b3q ys xs) w
 | [],n,[],[],us,vs,_,_,_,_,m=>rfl
 | f::fs,n,x::xs,y::ys,us,vs,hu,hv,hx,hy,m=>by
  obtain ⟨h1,h2,h3,h4,h5⟩:=hx
  obtain ⟨g1,g2,g3,g4,g5⟩:=hy
  obtain ⟨d,hd⟩:=a35 h2 h4 g4
  have hag:=b1Q h2 hd.un hd.ag
  have px:(part f.type ((us++x::xs).map K5).toArray f.offset).run Try.prog w=.ok (K5 x) w:=a5P hag h2 (by rw [h1,←hu];simp)
  have py:(part f.type ((vs++y::ys).map K5).toArray f.offset).run Try.prog w=.ok (K5 y) w:=a5P hag h2 (by rw [h1,←hv];simp)
  have ih:=a9w (fs:=fs) (n:=n+1) (us:=us++[x]) (vs:=vs++[y]) (by simp [hu]) (by simp [hv]) h5 g5 m
  rw [c90,c90] at ih
  simp only [List.singleton_append] at ih
  rw [Op.eqFields,c8Y (by simpa using h3)]
  simp only [Sem.run_bind,px,py,Result.andThen_ok,hd.eq m w]
  rw [b3q]
  cases dEq y x with
  | false=>rfl
  | true=>exact ih
theorem a77 {em:Bool} {m:Nat}:∀ {fs:List Field} {n:Nat} {xs us:List D},us.length=n→FOk fs n xs→(forIn fs PUnit.unit fun f (_:PUnit)=>(if f.name ≠ "_" then do Instr.checkKey em (m+1) f.type (←part f.type ((us++xs).map K5).toArray f.offset);pure (.yield PUnit.unit) else pure (.yield PUnit.unit):Sem (ForInStep PUnit))).run Try.prog w=.ok PUnit.unit w
 | [],n,[],us,_,_=>rfl
 | f::fs,n,x::xs,us,hu,hx=>by
  obtain ⟨h1,h2,h3,h4,h5⟩:=hx
  obtain ⟨d,hd⟩:=a35 h2 h4 h4
  have hag:=b1Q h2 hd.un hd.ag
  have px:(part f.type ((us++x::xs).map K5).toArray f.offset).run Try.prog w=.ok (K5 x) w:=a5P hag h2 (by rw [h1,←hu];simp)
  have ih:=a77 (em:=em) (m:=m) (fs:=fs) (n:=n+1) (us:=us++[x]) (by simp [hu]) h5
  rw [c90] at ih
  simp only [List.singleton_append] at ih
  rw [List.forIn_cons]
  rw [c8Y (by simpa using h3)]
  simp only [Sem.run_bind,px,Result.andThen_ok,hd.chk em m w,Sem.run_pure]
  exact ih
theorem b1S:∀ {n:Nat} {xs:List D},(∀x∈xs,Instr.sameBits n (K5 x) (K5 x)=true)→Instr.sameBits (n+1) (.agg (xs.map K5).toArray) (.agg (xs.map K5).toArray)=true:=by
 intro n xs h
 simp only [Instr.sameBits,c9T,d0N,c9s]
 intro p hp
 obtain ⟨i,hi⟩:=c9A.1 hp
 rw [List.getElem?_zip_eq_some] at hi
 have e:p.1=p.2:=Option.some.inj (hi.1.symm.trans hi.2)
 have h2:=hi.1
 simp only [c9v] at h2
 obtain ⟨x,hx,hpx⟩:=c9Z.1 h2
 obtain ⟨p1,p2⟩:=p
 simp only at e hpx ⊢
 rw [←e,←hpx]
 exact h x (c9h hx)
theorem a78 {t:Nat}:∀ {l:List Nat},b4z t l=true→t∈l
 | [],h=>by cases h
 | u::l,h=>by
  rw [b4z] at h
  split at h
  ·rename_i e;rw [C1] at e;rw [e];exact c8V ..
  ·exact c8X _ (a78 h)
theorem a2Y {t:Nat} (ht:f9 t=true) (hf:∀u∈(ty t).fty,f9 u=true) {ds:List D} (h:a2F t (.ag ds)=true):∃fs,Try.prog.underlying t=some (.struct fs)∧Try.prog.stoodInHeld t=false∧FOk fs.toList 0 ds:=by
 rw [a2F] at h
 split at h
 ·rename_i hst
  split at h
  ·rename_i hs
   have hm:=b4w t (a78 hs)
   unfold b3l at hm
   simp only [c8Z,d0x] at hm
   obtain ⟨⟨h1,_⟩,h2⟩:=hm
   obtain ⟨fs,hu,h3,h4⟩:=a5H ht hst
   rw [hu] at h2
   refine ⟨fs,hu,h1,b8l (fl:=(ty t).flds) ?_ (fun f hfm=>⟨hf _ (by rw [←h4];exact List.mem_map_of_mem hfm),c9s.1 h2 f hfm⟩) (by rw [h4];exact h)⟩
   have:=congrArg (List.map Prod.fst) h3
   simpa [d0W,Function.comp_def] using this
  ·cases h
 ·cases h
structure KeyOk (t:Nat) (x y:R) (w:World):Prop where
 eq:(Op.equal t (a0H x) (a0H y)).run Try.prog w=.ok (rEq y x) w
 chk:∀e,(Instr.checkKey e 10000 t (a0H x)).run Try.prog w=.ok () w
 bits:Instr.sameBits 10000 (a0H x) (a0H x)=true
 now:∀d,Try.prog.underlying t=some d→Instr.sameNow d (a0H x) (a0H y)=some (rEq y x)∨Instr.sameNow d (a0H x) (a0H y)=none
theorem b0A {t:Nat} (ht:f9 t=true) (hf:∀u∈(ty t).fty,f9 u=true) {x y:R} (hx:a2F t x=true) (hy:a2F t y=true):KeyOk t x y w:=by
 cases x with
 | one x =>
  cases y with
  | one y =>
   obtain ⟨d,hd⟩:=a35 ht hx hy
   exact ⟨hd.eq 9999 w,fun e=>hd.chk e 9999 w,hd.bits _,fun d' hd'=>by
    have h:=hd.un
    rw [hd'] at h
    injection h with h
    subst h
    exact .inl hd.now⟩
  | ag ys =>
   obtain ⟨fs,hu,_⟩:=a2Y ht hf hy
   obtain ⟨d,hd⟩:=a35 ht hx hx
   have h:=hd.un
   rw [hu] at h
   injection h with h
   subst h
   cases hd.ag
 | ag xs =>
  obtain ⟨fs,hu,hst,hfx⟩:=a2Y ht hf hx
  cases y with
  | one y =>
   obtain ⟨d,hd⟩:=a35 ht hy hy
   have h:=hd.un
   rw [hu] at h
   injection h with h
   subst h
   cases hd.ag
  | ag ys =>
   obtain ⟨fs',hu',_,hfy⟩:=a2Y ht hf hy
   rw [hu] at hu'
   injection hu' with hu'
   injection hu' with hu'
   subst hu'
   have hfo:Try.prog.fieldsOf t=fs:=by unfold Program.fieldsOf;rw [hu]
   refine ⟨?_,fun e=>?_,?_,fun d hd=>?_⟩
   ·have h1:=run_equalIn_struct w 9999 t (xs.map K5).toArray (ys.map K5).toArray (by rw [hfo];exact hu) hst
    rw [hfo] at h1
    exact h1.trans (a9w (us:=[]) (vs:=[]) rfl rfl hfx hfy 9998)
   ·have h1:=a77 (w:=w) (em:=e) (m:=9998) (us:=[]) rfl hfx
    show (Instr.checkKey e (9999+1) t (.agg (xs.map K5).toArray)).run Try.prog w=_
    rw [Instr.checkKey]
    simp only [Sem.run_bind,run_underlying hu,Result.andThen_ok]
    rw [←Array.forIn_toList]
    exact (congrArg (fun r=>r.andThen fun a w'=>Sem.run Try.prog (pure ()) w') h1:_)
   ·refine b1S (n:=9999) fun x hx'=>?_
    have key:∀ {fs:List Field} {n:Nat} {xs:List D},FOk fs n xs→∀x∈xs,Instr.sameBits 9999 (K5 x) (K5 x)=true:=by
     intro fs
     induction fs with
     | nil =>
      intro n xs h x hx
      cases xs with
      | nil=>cases hx
      | cons y ys=>exact (show False from h).elim
     | cons f fs ih =>
      intro n xs h x hx
      cases xs with
      | nil=>cases hx
      | cons y xs =>
       obtain ⟨h1,h2,h3,h4,h5⟩:=h
       rcases c9e.1 hx with rfl|hx
       ·obtain ⟨d,hd⟩:=a35 h2 h4 h4
        exact hd.bits _
       ·exact ih h5 x hx
    exact key hfx x hx'
   ·rw [hu] at hd
    injection hd with hd
    subst hd
    exact .inr rfl
end
section
variable {I:Nat→Nat→Prop} {w:World} {g:Nat→Value}
theorem a79:∀ {xs:List V} {us:List Value} {ds:List D},j8 I w g us xs→a2m xs=some ds→B0 I w us ds
 | [],us,ds,h,hd=>by
  rw [a2m] at hd
  injection hd with hd
  subst hd
  rw [h.unnil]
  exact .nil I w
 | x::l,us,ds,h,hd=>by
  obtain ⟨u,us,rfl,h1,h2⟩:=h.uncons
  cases x with
  | d x =>
   rw [a2m] at hd
   split at hd
   ·rename_i ys hys
    injection hd with hd
    subst hd
    cases h1 with
    | d h1=>exact .cons h1 (a79 h2 hys)
   ·cases hd
  | _=>simp [a2m] at hd
end
end
end Go.Proofs.Ytahpnackkmbmgaa.Vm
end
