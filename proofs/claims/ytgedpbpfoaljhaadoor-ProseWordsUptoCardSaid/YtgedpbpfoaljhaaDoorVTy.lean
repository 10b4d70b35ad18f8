/- The types of YtgedpbpfoaljhaaDoor, as the machine of values has them; each is held against the program. Printed by gen_vty.py. -/
import Derived.Test.YtgedpbpfoaljhaaDoorChecked
import Derived.WalkKit
namespace Go.Proofs.YtgedpbpfoaljhaaDoor.Vm
/-- What kind of type: just what the machine asks. -/
inductive TK where
  | int (k : IntKind)
  | bool
  | str
  | slice
  | struct
  | array
  | map
  | ptr
  | other
/-- A type: is it an aggregate; its cells; its zero value; a struct's fields: where each lies, its cells, its type; a slice's elements. -/
structure TI where
  kind : TK := .other
  agg : Bool := false
  sz : Nat := 1
  zero : List Value := []
  flds : List (Nat × Nat) := []
  fty : List Nat := []
  elem : Option Nat := none
  key : Option Nat := none
  val : Option Nat := none
  alen : Nat := 0
def aggOf : Option TypeDesc → Option Bool
  | some (.struct _) => some true
  | some (.array _ _) => some true
  | some _ => some false
  | none => none
def fldsOf (P : Program) : Option TypeDesc → Option (List (Nat × Option Nat) × List Nat)
  | some (.struct fs) => some (fs.toList.map (fun f => (f.offset, (P.info? f.type).map (·.size))), fs.toList.map (·.type))
  | _ => none
def kindOk (P : Program) (t : Nat) (i : TI) : Prop := match i.kind with
  | .int k => P.underlying t = some (.int k)
  | .bool => P.underlying t = some .bool
  | .str => P.underlying t = some .string
  | .slice => P.underlying t = i.elem.map .slice ∧ i.elem.isSome = true
  | .ptr => P.underlying t = i.val.map .pointer ∧ i.val.isSome = true
  | .array => P.underlying t = i.val.map (.array i.alen) ∧ i.val.isSome = true
  | .map => P.underlying t = (i.key.bind fun k => i.val.map fun e => .map k e) ∧ i.key.isSome = true ∧ i.val.isSome = true
  | .struct => fldsOf P (P.underlying t) = some (i.flds.map (fun x => (x.1, some x.2)), i.fty)
  | _ => True
def isAggV : Value → Bool
  | .agg _ => true
  | _ => false
/-- The table tells the truth. -/
structure TyOk (P : Program) (t : Nat) (i : TI) : Prop where
  info : (P.info? t).map (fun x => (x.size, x.zero.map Value.cells)) = some (i.sz, some i.zero.toArray)
  len : i.zero.length = i.sz
  zag : ((P.info? t).bind (·.zero)).map isAggV = some i.agg
  bytes : ((P.info? t).map fun x => decide (x.bytes ≤ 1024)) = some true
  agg : aggOf (P.underlying t) = some i.agg
  under : kindOk P t i
  elem : (match i.kind with | .slice => true | _ => i.elem.isNone) = true
  flds : (match i.kind with | .struct => true | _ => i.flds.isEmpty) = true
def ty (n : Nat) : TI := match Nat.blt n 66 with
  | true => match Nat.blt n 33 with
    | true => match Nat.blt n 16 with
      | true => match Nat.blt n 8 with
        | true => match Nat.blt n 4 with
          | true => match Nat.blt n 2 with
            | true => match Nat.blt n 1 with
              | true => { kind := .other }
              | false => { sz := 1, zero := [.nilFunc] }
            | false => match Nat.blt n 3 with
              | true => { kind := .int .i64, sz := 1, zero := [.int .i64 0] }
              | false => { kind := .int .i64, sz := 1, zero := [.int .i64 0] }
          | false => match Nat.blt n 6 with
            | true => match Nat.blt n 5 with
              | true => { kind := .bool, sz := 1, zero := [.bool false] }
              | false => { kind := .int .u8, sz := 1, zero := [.int .u8 0] }
            | false => match Nat.blt n 7 with
              | true => { kind := .int .u8, sz := 1, zero := [.int .u8 0] }
              | false => { kind := .struct, agg := true, sz := 4, zero := [.int .i64 0, .int .i64 0, .bool false, .int .u8 0], flds := [(0, 1), (1, 1), (2, 1), (3, 1)], fty := [2, 3, 4, 6] }
        | false => match Nat.blt n 12 with
          | true => match Nat.blt n 10 with
            | true => match Nat.blt n 9 with
              | true => { kind := .struct, agg := true, sz := 4, zero := [.int .i64 0, .int .i64 0, .bool false, .int .u8 0], flds := [(0, 1), (1, 1), (2, 1), (3, 1)], fty := [2, 3, 4, 6] }
              | false => { kind := .str, sz := 1, zero := [.string ⟨#[]⟩] }
            | false => match Nat.blt n 11 with
              | true => { kind := .str, sz := 1, zero := [.string ⟨#[]⟩] }
              | false => { kind := .str, sz := 1, zero := [.string ⟨#[]⟩] }
          | false => match Nat.blt n 14 with
            | true => match Nat.blt n 13 with
              | true => { kind := .int .u64, sz := 1, zero := [.int .u64 0] }
              | false => { kind := .struct, agg := true, sz := 2, zero := [.string ⟨#[]⟩, .int .u64 0], flds := [(0, 1), (1, 1)], fty := [9, 12] }
            | false => match Nat.blt n 15 with
              | true => { kind := .struct, agg := true, sz := 2, zero := [.string ⟨#[]⟩, .int .u64 0], flds := [(0, 1), (1, 1)], fty := [9, 12] }
              | false => { kind := .ptr, sz := 1, zero := [.pointer none], val := some 120 }
      | false => match Nat.blt n 24 with
        | true => match Nat.blt n 20 with
          | true => match Nat.blt n 18 with
            | true => match Nat.blt n 17 with
              | true => { kind := .ptr, sz := 1, zero := [.pointer none], val := some 123 }
              | false => { kind := .ptr, sz := 1, zero := [.pointer none], val := some 131 }
            | false => match Nat.blt n 19 with
              | true => { kind := .struct, agg := true, sz := 1, zero := [.pointer none], flds := [(0, 1)], fty := [17] }
              | false => { kind := .struct, agg := true, sz := 1, zero := [.pointer none], flds := [(0, 1)], fty := [17] }
          | false => match Nat.blt n 22 with
            | true => match Nat.blt n 21 with
              | true => { sz := 1, zero := [.nilIface] }
              | false => { kind := .int .i32, sz := 1, zero := [.int .i32 0] }
            | false => match Nat.blt n 23 with
              | true => { kind := .slice, sz := 1, zero := [.slice none 0 0], elem := some 9 }
              | false => { sz := 1, zero := [.nilFunc] }
        | false => match Nat.blt n 28 with
          | true => match Nat.blt n 26 with
            | true => match Nat.blt n 25 with
              | true => { sz := 1, zero := [.nilFunc] }
              | false => { sz := 1, zero := [.nilFunc] }
            | false => match Nat.blt n 27 with
              | true => { kind := .int .u8, sz := 1, zero := [.int .u8 0] }
              | false => { kind := .slice, sz := 1, zero := [.slice none 0 0], elem := some 29 }
          | false => match Nat.blt n 30 with
            | true => match Nat.blt n 29 with
              | true => { kind := .struct, agg := true, sz := 4, zero := [.int .u8 0, .string ⟨#[]⟩, .int .i64 0, .slice none 0 0], flds := [(0, 1), (1, 1), (2, 1), (3, 1)], fty := [26, 9, 3, 27] }
              | false => { kind := .struct, agg := true, sz := 4, zero := [.int .u8 0, .string ⟨#[]⟩, .int .i64 0, .slice none 0 0], flds := [(0, 1), (1, 1), (2, 1), (3, 1)], fty := [26, 9, 3, 27] }
            | false => match Nat.blt n 31 with
              | true => { kind := .slice, sz := 1, zero := [.slice none 0 0], elem := some 32 }
              | false => match Nat.blt n 32 with
                | true => { kind := .struct, agg := true, sz := 10, zero := [.int .u8 0, .string ⟨#[]⟩, .string ⟨#[]⟩, .int .i64 0, .bool false, .int .u8 0, .string ⟨#[]⟩, .int .i64 0, .slice none 0 0, .slice none 0 0], flds := [(0, 1), (1, 1), (2, 1), (3, 1), (4, 1), (5, 4), (9, 1)], fty := [26, 9, 9, 2, 4, 29, 30] }
                | false => { kind := .struct, agg := true, sz := 10, zero := [.int .u8 0, .string ⟨#[]⟩, .string ⟨#[]⟩, .int .i64 0, .bool false, .int .u8 0, .string ⟨#[]⟩, .int .i64 0, .slice none 0 0, .slice none 0 0], flds := [(0, 1), (1, 1), (2, 1), (3, 1), (4, 1), (5, 4), (9, 1)], fty := [26, 9, 9, 2, 4, 29, 30] }
    | false => match Nat.blt n 49 with
      | true => match Nat.blt n 41 with
        | true => match Nat.blt n 37 with
          | true => match Nat.blt n 35 with
            | true => match Nat.blt n 34 with
              | true => { kind := .int .u8, sz := 1, zero := [.int .u8 0] }
              | false => { kind := .other }
            | false => match Nat.blt n 36 with
              | true => { sz := 1, zero := [.nilFunc] }
              | false => { sz := 1, zero := [.nilFunc] }
          | false => match Nat.blt n 39 with
            | true => match Nat.blt n 38 with
              | true => { sz := 1, zero := [.nilFunc] }
              | false => { sz := 1, zero := [.nilFunc] }
            | false => match Nat.blt n 40 with
              | true => { kind := .ptr, sz := 1, zero := [.pointer none], val := some 42 }
              | false => { kind := .slice, sz := 1, zero := [.slice none 0 0], elem := some 5 }
        | false => match Nat.blt n 45 with
          | true => match Nat.blt n 43 with
            | true => match Nat.blt n 42 with
              | true => { kind := .struct, agg := true, sz := 2, zero := [.pointer none, .slice none 0 0], flds := [(0, 1), (1, 1)], fty := [39, 40] }
              | false => { kind := .struct, agg := true, sz := 2, zero := [.pointer none, .slice none 0 0], flds := [(0, 1), (1, 1)], fty := [39, 40] }
            | false => match Nat.blt n 44 with
              | true => { sz := 1, zero := [.nilFunc] }
              | false => { sz := 1, zero := [.nilIface] }
          | false => match Nat.blt n 47 with
            | true => match Nat.blt n 46 with
              | true => { sz := 1, zero := [.nilIface] }
              | false => { kind := .other }
            | false => match Nat.blt n 48 with
              | true => { sz := 1, zero := [.nilFunc] }
              | false => { sz := 1, zero := [.nilFunc] }
      | false => match Nat.blt n 57 with
        | true => match Nat.blt n 53 with
          | true => match Nat.blt n 51 with
            | true => match Nat.blt n 50 with
              | true => { sz := 1, zero := [.nilFunc] }
              | false => { sz := 1, zero := [.nilFunc] }
            | false => match Nat.blt n 52 with
              | true => { sz := 1, zero := [.nilFunc] }
              | false => { sz := 1, zero := [.nilFunc] }
          | false => match Nat.blt n 55 with
            | true => match Nat.blt n 54 with
              | true => { kind := .int .i64, sz := 1, zero := [.int .i64 0] }
              | false => { kind := .ptr, sz := 1, zero := [.pointer none], val := some 5 }
            | false => match Nat.blt n 56 with
              | true => { kind := .struct, agg := true, sz := 4, zero := [.bool false, .bool false, .int .i64 0, .int .i64 0], flds := [(0, 1), (1, 1), (2, 1), (3, 1)], fty := [4, 4, 3, 3] }
              | false => { kind := .struct, agg := true, sz := 4, zero := [.bool false, .bool false, .int .i64 0, .int .i64 0], flds := [(0, 1), (1, 1), (2, 1), (3, 1)], fty := [4, 4, 3, 3] }
        | false => match Nat.blt n 61 with
          | true => match Nat.blt n 59 with
            | true => match Nat.blt n 58 with
              | true => { kind := .other }
              | false => { sz := 1, zero := [.nilFunc] }
            | false => match Nat.blt n 60 with
              | true => { sz := 1, zero := [.nilFunc] }
              | false => { sz := 1, zero := [.nilFunc] }
          | false => match Nat.blt n 63 with
            | true => match Nat.blt n 62 with
              | true => { sz := 1, zero := [.nilFunc] }
              | false => { sz := 1, zero := [.nilFunc] }
            | false => match Nat.blt n 64 with
              | true => { sz := 1, zero := [.nilFunc] }
              | false => match Nat.blt n 65 with
                | true => { sz := 1, zero := [.nilFunc] }
                | false => { sz := 1, zero := [.pointer none] }
  | false => match Nat.blt n 99 with
    | true => match Nat.blt n 82 with
      | true => match Nat.blt n 74 with
        | true => match Nat.blt n 70 with
          | true => match Nat.blt n 68 with
            | true => match Nat.blt n 67 with
              | true => { sz := 1, zero := [.nilFunc] }
              | false => { sz := 1, zero := [.nilFunc] }
            | false => match Nat.blt n 69 with
              | true => { sz := 1, zero := [.nilFunc] }
              | false => { sz := 1, zero := [.nilFunc] }
          | false => match Nat.blt n 72 with
            | true => match Nat.blt n 71 with
              | true => { kind := .array, agg := true, sz := 24, zero := [.int .u8 0, .int .u8 0, .int .u8 0, .int .u8 0, .int .u8 0, .int .u8 0, .int .u8 0, .int .u8 0, .int .u8 0, .int .u8 0, .int .u8 0, .int .u8 0, .int .u8 0, .int .u8 0, .int .u8 0, .int .u8 0, .int .u8 0, .int .u8 0, .int .u8 0, .int .u8 0, .int .u8 0, .int .u8 0, .int .u8 0, .int .u8 0], val := some 5, alen := 24 }
              | false => { kind := .int .u64, sz := 1, zero := [.int .u64 0] }
            | false => match Nat.blt n 73 with
              | true => { sz := 1, zero := [.nilFunc] }
              | false => { sz := 1, zero := [.nilFunc] }
        | false => match Nat.blt n 78 with
          | true => match Nat.blt n 76 with
            | true => match Nat.blt n 75 with
              | true => { kind := .other }
              | false => { sz := 1, zero := [.nilFunc] }
            | false => match Nat.blt n 77 with
              | true => { sz := 1, zero := [.nilFunc] }
              | false => { kind := .map, sz := 1, zero := [.map none], key := some 3, val := some 4 }
          | false => match Nat.blt n 80 with
            | true => match Nat.blt n 79 with
              | true => { kind := .map, sz := 1, zero := [.map none], key := some 3, val := some 4 }
              | false => { sz := 1, zero := [.nilFunc] }
            | false => match Nat.blt n 81 with
              | true => { kind := .slice, sz := 1, zero := [.slice none 0 0], elem := some 3 }
              | false => { sz := 1, zero := [.nilFunc] }
      | false => match Nat.blt n 90 with
        | true => match Nat.blt n 86 with
          | true => match Nat.blt n 84 with
            | true => match Nat.blt n 83 with
              | true => { sz := 1, zero := [.nilFunc] }
              | false => { sz := 1, zero := [.nilFunc] }
            | false => match Nat.blt n 85 with
              | true => { kind := .array, agg := true, sz := 20, zero := [.int .u64 0, .int .u64 0, .int .u64 0, .int .u64 0, .int .u64 0, .int .u64 0, .int .u64 0, .int .u64 0, .int .u64 0, .int .u64 0, .int .u64 0, .int .u64 0, .int .u64 0, .int .u64 0, .int .u64 0, .int .u64 0, .int .u64 0, .int .u64 0, .int .u64 0, .int .u64 0], val := some 71, alen := 20 }
              | false => { kind := .int .u32, sz := 1, zero := [.int .u32 0] }
          | false => match Nat.blt n 88 with
            | true => match Nat.blt n 87 with
              | true => { kind := .other }
              | false => { sz := 1, zero := [.nilFunc] }
            | false => match Nat.blt n 89 with
              | true => { kind := .int .u64, sz := 1, zero := [.int .u64 0] }
              | false => { sz := 1, zero := [.nilFunc] }
        | false => match Nat.blt n 94 with
          | true => match Nat.blt n 92 with
            | true => match Nat.blt n 91 with
              | true => { kind := .struct, agg := true, sz := 2, zero := [.pointer none, .slice none 0 0], flds := [(0, 2)], fty := [42] }
              | false => { kind := .struct, agg := true, sz := 2, zero := [.pointer none, .slice none 0 0], flds := [(0, 2)], fty := [42] }
            | false => match Nat.blt n 93 with
              | true => { sz := 1, zero := [.nilFunc] }
              | false => { sz := 1, zero := [.nilFunc] }
          | false => match Nat.blt n 96 with
            | true => match Nat.blt n 95 with
              | true => { sz := 1, zero := [.nilFunc] }
              | false => { sz := 1, zero := [.nilFunc] }
            | false => match Nat.blt n 97 with
              | true => { sz := 1, zero := [.nilFunc] }
              | false => match Nat.blt n 98 with
                | true => { sz := 1, zero := [.nilFunc] }
                | false => { kind := .ptr, sz := 1, zero := [.pointer none], val := some 91 }
    | false => match Nat.blt n 115 with
      | true => match Nat.blt n 107 with
        | true => match Nat.blt n 103 with
          | true => match Nat.blt n 101 with
            | true => match Nat.blt n 100 with
              | true => { sz := 1, zero := [.nilFunc] }
              | false => { kind := .other }
            | false => match Nat.blt n 102 with
              | true => { kind := .slice, sz := 1, zero := [.slice none 0 0], elem := some 105 }
              | false => { kind := .other }
          | false => match Nat.blt n 105 with
            | true => match Nat.blt n 104 with
              | true => { sz := 1, zero := [.nilFunc] }
              | false => { kind := .struct, agg := true, sz := 5, zero := [.string ⟨#[]⟩, .int .u8 0, .string ⟨#[]⟩, .int .i64 0, .slice none 0 0], flds := [(0, 1), (1, 4)], fty := [9, 29] }
            | false => match Nat.blt n 106 with
              | true => { kind := .struct, agg := true, sz := 5, zero := [.string ⟨#[]⟩, .int .u8 0, .string ⟨#[]⟩, .int .i64 0, .slice none 0 0], flds := [(0, 1), (1, 4)], fty := [9, 29] }
              | false => { sz := 1, zero := [.nilFunc] }
        | false => match Nat.blt n 111 with
          | true => match Nat.blt n 109 with
            | true => match Nat.blt n 108 with
              | true => { kind := .array, agg := true, sz := 32, zero := [.int .u8 0, .int .u8 0, .int .u8 0, .int .u8 0, .int .u8 0, .int .u8 0, .int .u8 0, .int .u8 0, .int .u8 0, .int .u8 0, .int .u8 0, .int .u8 0, .int .u8 0, .int .u8 0, .int .u8 0, .int .u8 0, .int .u8 0, .int .u8 0, .int .u8 0, .int .u8 0, .int .u8 0, .int .u8 0, .int .u8 0, .int .u8 0, .int .u8 0, .int .u8 0, .int .u8 0, .int .u8 0, .int .u8 0, .int .u8 0, .int .u8 0, .int .u8 0], val := some 5, alen := 32 }
              | false => { kind := .other }
            | false => match Nat.blt n 110 with
              | true => { sz := 1, zero := [.nilFunc] }
              | false => { sz := 1, zero := [.nilFunc] }
          | false => match Nat.blt n 113 with
            | true => match Nat.blt n 112 with
              | true => { sz := 1, zero := [.nilFunc] }
              | false => { sz := 1, zero := [.nilFunc] }
            | false => match Nat.blt n 114 with
              | true => { sz := 1, zero := [.nilFunc] }
              | false => { sz := 1, zero := [.nilFunc] }
      | false => match Nat.blt n 123 with
        | true => match Nat.blt n 119 with
          | true => match Nat.blt n 117 with
            | true => match Nat.blt n 116 with
              | true => { sz := 1, zero := [.nilFunc] }
              | false => { sz := 1, zero := [.nilFunc] }
            | false => match Nat.blt n 118 with
              | true => { sz := 1, zero := [.nilFunc] }
              | false => { sz := 1, zero := [.nilFunc] }
          | false => match Nat.blt n 121 with
            | true => match Nat.blt n 120 with
              | true => { kind := .struct, agg := true, sz := 4, zero := [.pointer none, .pointer none, .pointer none, .string ⟨#[]⟩], flds := [(0, 1), (1, 1), (2, 1), (3, 1)], fty := [17, 17, 17, 9] }
              | false => { kind := .struct, agg := true, sz := 4, zero := [.pointer none, .pointer none, .pointer none, .string ⟨#[]⟩], flds := [(0, 1), (1, 1), (2, 1), (3, 1)], fty := [17, 17, 17, 9] }
            | false => match Nat.blt n 122 with
              | true => { kind := .array, agg := true, sz := 0, zero := [], val := some 16, alen := 0 }
              | false => { kind := .struct, agg := true, sz := 0, zero := [], flds := [(0, 0)], fty := [121] }
        | false => match Nat.blt n 127 with
          | true => match Nat.blt n 125 with
            | true => match Nat.blt n 124 with
              | true => { kind := .struct, agg := true, sz := 0, zero := [], flds := [(0, 0)], fty := [121] }
              | false => { sz := 1, zero := [.nilFunc] }
            | false => match Nat.blt n 126 with
              | true => { kind := .int .u8, sz := 1, zero := [.int .u8 0] }
              | false => { kind := .int .u8, sz := 1, zero := [.int .u8 0] }
          | false => match Nat.blt n 129 with
            | true => match Nat.blt n 128 with
              | true => { sz := 1, zero := [.nilFunc] }
              | false => { kind := .int .i32, sz := 1, zero := [.int .i32 0] }
            | false => match Nat.blt n 130 with
              | true => { kind := .int .i32, sz := 1, zero := [.int .i32 0] }
              | false => match Nat.blt n 131 with
                | true => { kind := .struct, agg := true, sz := 11, zero := [.int .u64 0, .int .u64 0, .int .u32 0, .int .u8 0, .int .u8 0, .int .u8 0, .int .u8 0, .nilFunc, .pointer none, .int .i32 0, .int .i32 0], flds := [(0, 1), (1, 1), (2, 1), (3, 1), (4, 1), (5, 1), (6, 1), (7, 1), (8, 1), (9, 1), (10, 1)], fty := [12, 12, 85, 125, 5, 5, 126, 127, 54, 128, 129] }
                | false => { kind := .struct, agg := true, sz := 11, zero := [.int .u64 0, .int .u64 0, .int .u32 0, .int .u8 0, .int .u8 0, .int .u8 0, .int .u8 0, .nilFunc, .pointer none, .int .i32 0, .int .i32 0], flds := [(0, 1), (1, 1), (2, 1), (3, 1), (4, 1), (5, 1), (6, 1), (7, 1), (8, 1), (9, 1), (10, 1)], fty := [12, 12, 85, 125, 5, 5, 126, 127, 54, 128, 129] }
/-- Struct types that are keys of maps. -/
def skeys : List Nat := []
def skeyOk (P : Program) (t : Nat) : Bool := !P.stoodInHeld t && (match P.underlying t with | some (.struct fs) => fs.toList.all (fun f => f.name != "_") | _ => false)
theorem skeysOk : ∀ t ∈ skeys, skeyOk Tryd.prog t = true := (fun _ h => by cases h)
def known : List Nat := [1, 2, 3, 4, 5, 6, 7, 8, 9, 10, 11, 12, 13, 14, 15, 16, 17, 18, 19, 20, 21, 22, 23, 24, 25, 26, 27, 28, 29, 30, 31, 32, 33, 35, 36, 37, 38, 39, 40, 41, 42, 43, 44, 45, 47, 48, 49, 50, 51, 52, 53, 54, 55, 56, 58, 59, 60, 61, 62, 63, 64, 65, 66, 67, 68, 69, 70, 71, 72, 73, 75, 76, 77, 78, 79, 80, 81, 82, 83, 84, 85, 87, 88, 89, 90, 91, 92, 93, 94, 95, 96, 97, 98, 99, 101, 103, 104, 105, 106, 107, 109, 110, 111, 112, 113, 114, 115, 116, 117, 118, 119, 120, 121, 122, 123, 124, 125, 126, 127, 128, 129, 130, 131]
def tyKnown (t : Nat) : Bool := known.contains t
theorem tyOk1 : TyOk Tryd.prog 1 (ty 1) := ⟨by kernel_rfl, rfl, by kernel_rfl, by kernel_rfl, by kernel_rfl, trivial, rfl, rfl⟩
theorem tyOk2 : TyOk Tryd.prog 2 (ty 2) := ⟨by kernel_rfl, rfl, by kernel_rfl, by kernel_rfl, by kernel_rfl, (show Program.underlying Tryd.prog _ = _ by kernel_rfl), rfl, rfl⟩
theorem tyOk3 : TyOk Tryd.prog 3 (ty 3) := ⟨by kernel_rfl, rfl, by kernel_rfl, by kernel_rfl, by kernel_rfl, (show Program.underlying Tryd.prog _ = _ by kernel_rfl), rfl, rfl⟩
theorem tyOk4 : TyOk Tryd.prog 4 (ty 4) := ⟨by kernel_rfl, rfl, by kernel_rfl, by kernel_rfl, by kernel_rfl, (show Program.underlying Tryd.prog _ = _ by kernel_rfl), rfl, rfl⟩
theorem tyOk5 : TyOk Tryd.prog 5 (ty 5) := ⟨by kernel_rfl, rfl, by kernel_rfl, by kernel_rfl, by kernel_rfl, (show Program.underlying Tryd.prog _ = _ by kernel_rfl), rfl, rfl⟩
theorem tyOk6 : TyOk Tryd.prog 6 (ty 6) := ⟨by kernel_rfl, rfl, by kernel_rfl, by kernel_rfl, by kernel_rfl, (show Program.underlying Tryd.prog _ = _ by kernel_rfl), rfl, rfl⟩
theorem tyOk7 : TyOk Tryd.prog 7 (ty 7) := ⟨by kernel_rfl, rfl, by kernel_rfl, by kernel_rfl, by kernel_rfl, (show fldsOf _ _ = _ by kernel_rfl), rfl, rfl⟩
theorem tyOk8 : TyOk Tryd.prog 8 (ty 8) := ⟨by kernel_rfl, rfl, by kernel_rfl, by kernel_rfl, by kernel_rfl, (show fldsOf _ _ = _ by kernel_rfl), rfl, rfl⟩
theorem tyOk9 : TyOk Tryd.prog 9 (ty 9) := ⟨by kernel_rfl, rfl, by kernel_rfl, by kernel_rfl, by kernel_rfl, (show Program.underlying Tryd.prog _ = _ by kernel_rfl), rfl, rfl⟩
theorem tyOk10 : TyOk Tryd.prog 10 (ty 10) := ⟨by kernel_rfl, rfl, by kernel_rfl, by kernel_rfl, by kernel_rfl, (show Program.underlying Tryd.prog _ = _ by kernel_rfl), rfl, rfl⟩
theorem tyOk11 : TyOk Tryd.prog 11 (ty 11) := ⟨by kernel_rfl, rfl, by kernel_rfl, by kernel_rfl, by kernel_rfl, (show Program.underlying Tryd.prog _ = _ by kernel_rfl), rfl, rfl⟩
theorem tyOk12 : TyOk Tryd.prog 12 (ty 12) := ⟨by kernel_rfl, rfl, by kernel_rfl, by kernel_rfl, by kernel_rfl, (show Program.underlying Tryd.prog _ = _ by kernel_rfl), rfl, rfl⟩
theorem tyOk13 : TyOk Tryd.prog 13 (ty 13) := ⟨by kernel_rfl, rfl, by kernel_rfl, by kernel_rfl, by kernel_rfl, (show fldsOf _ _ = _ by kernel_rfl), rfl, rfl⟩
theorem tyOk14 : TyOk Tryd.prog 14 (ty 14) := ⟨by kernel_rfl, rfl, by kernel_rfl, by kernel_rfl, by kernel_rfl, (show fldsOf _ _ = _ by kernel_rfl), rfl, rfl⟩
theorem tyOk15 : TyOk Tryd.prog 15 (ty 15) := ⟨by kernel_rfl, rfl, by kernel_rfl, by kernel_rfl, by kernel_rfl, ⟨by kernel_rfl, rfl⟩, rfl, rfl⟩
theorem tyOk16 : TyOk Tryd.prog 16 (ty 16) := ⟨by kernel_rfl, rfl, by kernel_rfl, by kernel_rfl, by kernel_rfl, ⟨by kernel_rfl, rfl⟩, rfl, rfl⟩
theorem tyOk17 : TyOk Tryd.prog 17 (ty 17) := ⟨by kernel_rfl, rfl, by kernel_rfl, by kernel_rfl, by kernel_rfl, ⟨by kernel_rfl, rfl⟩, rfl, rfl⟩
theorem tyOk18 : TyOk Tryd.prog 18 (ty 18) := ⟨by kernel_rfl, rfl, by kernel_rfl, by kernel_rfl, by kernel_rfl, (show fldsOf _ _ = _ by kernel_rfl), rfl, rfl⟩
theorem tyOk19 : TyOk Tryd.prog 19 (ty 19) := ⟨by kernel_rfl, rfl, by kernel_rfl, by kernel_rfl, by kernel_rfl, (show fldsOf _ _ = _ by kernel_rfl), rfl, rfl⟩
theorem tyOk20 : TyOk Tryd.prog 20 (ty 20) := ⟨by kernel_rfl, rfl, by kernel_rfl, by kernel_rfl, by kernel_rfl, trivial, rfl, rfl⟩
theorem tyOk21 : TyOk Tryd.prog 21 (ty 21) := ⟨by kernel_rfl, rfl, by kernel_rfl, by kernel_rfl, by kernel_rfl, (show Program.underlying Tryd.prog _ = _ by kernel_rfl), rfl, rfl⟩
theorem tyOk22 : TyOk Tryd.prog 22 (ty 22) := ⟨by kernel_rfl, rfl, by kernel_rfl, by kernel_rfl, by kernel_rfl, ⟨by kernel_rfl, rfl⟩, rfl, rfl⟩
theorem tyOk23 : TyOk Tryd.prog 23 (ty 23) := ⟨by kernel_rfl, rfl, by kernel_rfl, by kernel_rfl, by kernel_rfl, trivial, rfl, rfl⟩
theorem tyOk24 : TyOk Tryd.prog 24 (ty 24) := ⟨by kernel_rfl, rfl, by kernel_rfl, by kernel_rfl, by kernel_rfl, trivial, rfl, rfl⟩
theorem tyOk25 : TyOk Tryd.prog 25 (ty 25) := ⟨by kernel_rfl, rfl, by kernel_rfl, by kernel_rfl, by kernel_rfl, trivial, rfl, rfl⟩
theorem tyOk26 : TyOk Tryd.prog 26 (ty 26) := ⟨by kernel_rfl, rfl, by kernel_rfl, by kernel_rfl, by kernel_rfl, (show Program.underlying Tryd.prog _ = _ by kernel_rfl), rfl, rfl⟩
theorem tyOk27 : TyOk Tryd.prog 27 (ty 27) := ⟨by kernel_rfl, rfl, by kernel_rfl, by kernel_rfl, by kernel_rfl, ⟨by kernel_rfl, rfl⟩, rfl, rfl⟩
theorem tyOk28 : TyOk Tryd.prog 28 (ty 28) := ⟨by kernel_rfl, rfl, by kernel_rfl, by kernel_rfl, by kernel_rfl, (show fldsOf _ _ = _ by kernel_rfl), rfl, rfl⟩
theorem tyOk29 : TyOk Tryd.prog 29 (ty 29) := ⟨by kernel_rfl, rfl, by kernel_rfl, by kernel_rfl, by kernel_rfl, (show fldsOf _ _ = _ by kernel_rfl), rfl, rfl⟩
theorem tyOk30 : TyOk Tryd.prog 30 (ty 30) := ⟨by kernel_rfl, rfl, by kernel_rfl, by kernel_rfl, by kernel_rfl, ⟨by kernel_rfl, rfl⟩, rfl, rfl⟩
theorem tyOk31 : TyOk Tryd.prog 31 (ty 31) := ⟨by kernel_rfl, rfl, by kernel_rfl, by kernel_rfl, by kernel_rfl, (show fldsOf _ _ = _ by kernel_rfl), rfl, rfl⟩
theorem tyOk32 : TyOk Tryd.prog 32 (ty 32) := ⟨by kernel_rfl, rfl, by kernel_rfl, by kernel_rfl, by kernel_rfl, (show fldsOf _ _ = _ by kernel_rfl), rfl, rfl⟩
theorem tyOk33 : TyOk Tryd.prog 33 (ty 33) := ⟨by kernel_rfl, rfl, by kernel_rfl, by kernel_rfl, by kernel_rfl, (show Program.underlying Tryd.prog _ = _ by kernel_rfl), rfl, rfl⟩
theorem tyOk35 : TyOk Tryd.prog 35 (ty 35) := ⟨by kernel_rfl, rfl, by kernel_rfl, by kernel_rfl, by kernel_rfl, trivial, rfl, rfl⟩
theorem tyOk36 : TyOk Tryd.prog 36 (ty 36) := ⟨by kernel_rfl, rfl, by kernel_rfl, by kernel_rfl, by kernel_rfl, trivial, rfl, rfl⟩
theorem tyOk37 : TyOk Tryd.prog 37 (ty 37) := ⟨by kernel_rfl, rfl, by kernel_rfl, by kernel_rfl, by kernel_rfl, trivial, rfl, rfl⟩
theorem tyOk38 : TyOk Tryd.prog 38 (ty 38) := ⟨by kernel_rfl, rfl, by kernel_rfl, by kernel_rfl, by kernel_rfl, trivial, rfl, rfl⟩
theorem tyOk39 : TyOk Tryd.prog 39 (ty 39) := ⟨by kernel_rfl, rfl, by kernel_rfl, by kernel_rfl, by kernel_rfl, ⟨by kernel_rfl, rfl⟩, rfl, rfl⟩
theorem tyOk40 : TyOk Tryd.prog 40 (ty 40) := ⟨by kernel_rfl, rfl, by kernel_rfl, by kernel_rfl, by kernel_rfl, ⟨by kernel_rfl, rfl⟩, rfl, rfl⟩
theorem tyOk41 : TyOk Tryd.prog 41 (ty 41) := ⟨by kernel_rfl, rfl, by kernel_rfl, by kernel_rfl, by kernel_rfl, (show fldsOf _ _ = _ by kernel_rfl), rfl, rfl⟩
theorem tyOk42 : TyOk Tryd.prog 42 (ty 42) := ⟨by kernel_rfl, rfl, by kernel_rfl, by kernel_rfl, by kernel_rfl, (show fldsOf _ _ = _ by kernel_rfl), rfl, rfl⟩
theorem tyOk43 : TyOk Tryd.prog 43 (ty 43) := ⟨by kernel_rfl, rfl, by kernel_rfl, by kernel_rfl, by kernel_rfl, trivial, rfl, rfl⟩
theorem tyOk44 : TyOk Tryd.prog 44 (ty 44) := ⟨by kernel_rfl, rfl, by kernel_rfl, by kernel_rfl, by kernel_rfl, trivial, rfl, rfl⟩
theorem tyOk45 : TyOk Tryd.prog 45 (ty 45) := ⟨by kernel_rfl, rfl, by kernel_rfl, by kernel_rfl, by kernel_rfl, trivial, rfl, rfl⟩
theorem tyOk47 : TyOk Tryd.prog 47 (ty 47) := ⟨by kernel_rfl, rfl, by kernel_rfl, by kernel_rfl, by kernel_rfl, trivial, rfl, rfl⟩
theorem tyOk48 : TyOk Tryd.prog 48 (ty 48) := ⟨by kernel_rfl, rfl, by kernel_rfl, by kernel_rfl, by kernel_rfl, trivial, rfl, rfl⟩
theorem tyOk49 : TyOk Tryd.prog 49 (ty 49) := ⟨by kernel_rfl, rfl, by kernel_rfl, by kernel_rfl, by kernel_rfl, trivial, rfl, rfl⟩
theorem tyOk50 : TyOk Tryd.prog 50 (ty 50) := ⟨by kernel_rfl, rfl, by kernel_rfl, by kernel_rfl, by kernel_rfl, trivial, rfl, rfl⟩
theorem tyOk51 : TyOk Tryd.prog 51 (ty 51) := ⟨by kernel_rfl, rfl, by kernel_rfl, by kernel_rfl, by kernel_rfl, trivial, rfl, rfl⟩
theorem tyOk52 : TyOk Tryd.prog 52 (ty 52) := ⟨by kernel_rfl, rfl, by kernel_rfl, by kernel_rfl, by kernel_rfl, trivial, rfl, rfl⟩
theorem tyOk53 : TyOk Tryd.prog 53 (ty 53) := ⟨by kernel_rfl, rfl, by kernel_rfl, by kernel_rfl, by kernel_rfl, (show Program.underlying Tryd.prog _ = _ by kernel_rfl), rfl, rfl⟩
theorem tyOk54 : TyOk Tryd.prog 54 (ty 54) := ⟨by kernel_rfl, rfl, by kernel_rfl, by kernel_rfl, by kernel_rfl, ⟨by kernel_rfl, rfl⟩, rfl, rfl⟩
theorem tyOk55 : TyOk Tryd.prog 55 (ty 55) := ⟨by kernel_rfl, rfl, by kernel_rfl, by kernel_rfl, by kernel_rfl, (show fldsOf _ _ = _ by kernel_rfl), rfl, rfl⟩
theorem tyOk56 : TyOk Tryd.prog 56 (ty 56) := ⟨by kernel_rfl, rfl, by kernel_rfl, by kernel_rfl, by kernel_rfl, (show fldsOf _ _ = _ by kernel_rfl), rfl, rfl⟩
theorem tyOk58 : TyOk Tryd.prog 58 (ty 58) := ⟨by kernel_rfl, rfl, by kernel_rfl, by kernel_rfl, by kernel_rfl, trivial, rfl, rfl⟩
theorem tyOk59 : TyOk Tryd.prog 59 (ty 59) := ⟨by kernel_rfl, rfl, by kernel_rfl, by kernel_rfl, by kernel_rfl, trivial, rfl, rfl⟩
theorem tyOk60 : TyOk Tryd.prog 60 (ty 60) := ⟨by kernel_rfl, rfl, by kernel_rfl, by kernel_rfl, by kernel_rfl, trivial, rfl, rfl⟩
theorem tyOk61 : TyOk Tryd.prog 61 (ty 61) := ⟨by kernel_rfl, rfl, by kernel_rfl, by kernel_rfl, by kernel_rfl, trivial, rfl, rfl⟩
theorem tyOk62 : TyOk Tryd.prog 62 (ty 62) := ⟨by kernel_rfl, rfl, by kernel_rfl, by kernel_rfl, by kernel_rfl, trivial, rfl, rfl⟩
theorem tyOk63 : TyOk Tryd.prog 63 (ty 63) := ⟨by kernel_rfl, rfl, by kernel_rfl, by kernel_rfl, by kernel_rfl, trivial, rfl, rfl⟩
theorem tyOk64 : TyOk Tryd.prog 64 (ty 64) := ⟨by kernel_rfl, rfl, by kernel_rfl, by kernel_rfl, by kernel_rfl, trivial, rfl, rfl⟩
theorem tyOk65 : TyOk Tryd.prog 65 (ty 65) := ⟨by kernel_rfl, rfl, by kernel_rfl, by kernel_rfl, by kernel_rfl, trivial, rfl, rfl⟩
theorem tyOk66 : TyOk Tryd.prog 66 (ty 66) := ⟨by kernel_rfl, rfl, by kernel_rfl, by kernel_rfl, by kernel_rfl, trivial, rfl, rfl⟩
theorem tyOk67 : TyOk Tryd.prog 67 (ty 67) := ⟨by kernel_rfl, rfl, by kernel_rfl, by kernel_rfl, by kernel_rfl, trivial, rfl, rfl⟩
theorem tyOk68 : TyOk Tryd.prog 68 (ty 68) := ⟨by kernel_rfl, rfl, by kernel_rfl, by kernel_rfl, by kernel_rfl, trivial, rfl, rfl⟩
theorem tyOk69 : TyOk Tryd.prog 69 (ty 69) := ⟨by kernel_rfl, rfl, by kernel_rfl, by kernel_rfl, by kernel_rfl, trivial, rfl, rfl⟩
theorem tyOk70 : TyOk Tryd.prog 70 (ty 70) := ⟨by kernel_rfl, rfl, by kernel_rfl, by kernel_rfl, by kernel_rfl, ⟨by kernel_rfl, rfl⟩, rfl, rfl⟩
theorem tyOk71 : TyOk Tryd.prog 71 (ty 71) := ⟨by kernel_rfl, rfl, by kernel_rfl, by kernel_rfl, by kernel_rfl, (show Program.underlying Tryd.prog _ = _ by kernel_rfl), rfl, rfl⟩
theorem tyOk72 : TyOk Tryd.prog 72 (ty 72) := ⟨by kernel_rfl, rfl, by kernel_rfl, by kernel_rfl, by kernel_rfl, trivial, rfl, rfl⟩
theorem tyOk73 : TyOk Tryd.prog 73 (ty 73) := ⟨by kernel_rfl, rfl, by kernel_rfl, by kernel_rfl, by kernel_rfl, trivial, rfl, rfl⟩
theorem tyOk75 : TyOk Tryd.prog 75 (ty 75) := ⟨by kernel_rfl, rfl, by kernel_rfl, by kernel_rfl, by kernel_rfl, trivial, rfl, rfl⟩
theorem tyOk76 : TyOk Tryd.prog 76 (ty 76) := ⟨by kernel_rfl, rfl, by kernel_rfl, by kernel_rfl, by kernel_rfl, trivial, rfl, rfl⟩
theorem tyOk77 : TyOk Tryd.prog 77 (ty 77) := ⟨by kernel_rfl, rfl, by kernel_rfl, by kernel_rfl, by kernel_rfl, ⟨by kernel_rfl, rfl, rfl⟩, rfl, rfl⟩
theorem tyOk78 : TyOk Tryd.prog 78 (ty 78) := ⟨by kernel_rfl, rfl, by kernel_rfl, by kernel_rfl, by kernel_rfl, ⟨by kernel_rfl, rfl, rfl⟩, rfl, rfl⟩
theorem tyOk79 : TyOk Tryd.prog 79 (ty 79) := ⟨by kernel_rfl, rfl, by kernel_rfl, by kernel_rfl, by kernel_rfl, trivial, rfl, rfl⟩
theorem tyOk80 : TyOk Tryd.prog 80 (ty 80) := ⟨by kernel_rfl, rfl, by kernel_rfl, by kernel_rfl, by kernel_rfl, ⟨by kernel_rfl, rfl⟩, rfl, rfl⟩
theorem tyOk81 : TyOk Tryd.prog 81 (ty 81) := ⟨by kernel_rfl, rfl, by kernel_rfl, by kernel_rfl, by kernel_rfl, trivial, rfl, rfl⟩
theorem tyOk82 : TyOk Tryd.prog 82 (ty 82) := ⟨by kernel_rfl, rfl, by kernel_rfl, by kernel_rfl, by kernel_rfl, trivial, rfl, rfl⟩
theorem tyOk83 : TyOk Tryd.prog 83 (ty 83) := ⟨by kernel_rfl, rfl, by kernel_rfl, by kernel_rfl, by kernel_rfl, trivial, rfl, rfl⟩
theorem tyOk84 : TyOk Tryd.prog 84 (ty 84) := ⟨by kernel_rfl, rfl, by kernel_rfl, by kernel_rfl, by kernel_rfl, ⟨by kernel_rfl, rfl⟩, rfl, rfl⟩
theorem tyOk85 : TyOk Tryd.prog 85 (ty 85) := ⟨by kernel_rfl, rfl, by kernel_rfl, by kernel_rfl, by kernel_rfl, (show Program.underlying Tryd.prog _ = _ by kernel_rfl), rfl, rfl⟩
theorem tyOk87 : TyOk Tryd.prog 87 (ty 87) := ⟨by kernel_rfl, rfl, by kernel_rfl, by kernel_rfl, by kernel_rfl, trivial, rfl, rfl⟩
theorem tyOk88 : TyOk Tryd.prog 88 (ty 88) := ⟨by kernel_rfl, rfl, by kernel_rfl, by kernel_rfl, by kernel_rfl, (show Program.underlying Tryd.prog _ = _ by kernel_rfl), rfl, rfl⟩
theorem tyOk89 : TyOk Tryd.prog 89 (ty 89) := ⟨by kernel_rfl, rfl, by kernel_rfl, by kernel_rfl, by kernel_rfl, trivial, rfl, rfl⟩
theorem tyOk90 : TyOk Tryd.prog 90 (ty 90) := ⟨by kernel_rfl, rfl, by kernel_rfl, by kernel_rfl, by kernel_rfl, (show fldsOf _ _ = _ by kernel_rfl), rfl, rfl⟩
theorem tyOk91 : TyOk Tryd.prog 91 (ty 91) := ⟨by kernel_rfl, rfl, by kernel_rfl, by kernel_rfl, by kernel_rfl, (show fldsOf _ _ = _ by kernel_rfl), rfl, rfl⟩
theorem tyOk92 : TyOk Tryd.prog 92 (ty 92) := ⟨by kernel_rfl, rfl, by kernel_rfl, by kernel_rfl, by kernel_rfl, trivial, rfl, rfl⟩
theorem tyOk93 : TyOk Tryd.prog 93 (ty 93) := ⟨by kernel_rfl, rfl, by kernel_rfl, by kernel_rfl, by kernel_rfl, trivial, rfl, rfl⟩
theorem tyOk94 : TyOk Tryd.prog 94 (ty 94) := ⟨by kernel_rfl, rfl, by kernel_rfl, by kernel_rfl, by kernel_rfl, trivial, rfl, rfl⟩
theorem tyOk95 : TyOk Tryd.prog 95 (ty 95) := ⟨by kernel_rfl, rfl, by kernel_rfl, by kernel_rfl, by kernel_rfl, trivial, rfl, rfl⟩
theorem tyOk96 : TyOk Tryd.prog 96 (ty 96) := ⟨by kernel_rfl, rfl, by kernel_rfl, by kernel_rfl, by kernel_rfl, trivial, rfl, rfl⟩
theorem tyOk97 : TyOk Tryd.prog 97 (ty 97) := ⟨by kernel_rfl, rfl, by kernel_rfl, by kernel_rfl, by kernel_rfl, trivial, rfl, rfl⟩
theorem tyOk98 : TyOk Tryd.prog 98 (ty 98) := ⟨by kernel_rfl, rfl, by kernel_rfl, by kernel_rfl, by kernel_rfl, ⟨by kernel_rfl, rfl⟩, rfl, rfl⟩
theorem tyOk99 : TyOk Tryd.prog 99 (ty 99) := ⟨by kernel_rfl, rfl, by kernel_rfl, by kernel_rfl, by kernel_rfl, trivial, rfl, rfl⟩
theorem tyOk101 : TyOk Tryd.prog 101 (ty 101) := ⟨by kernel_rfl, rfl, by kernel_rfl, by kernel_rfl, by kernel_rfl, ⟨by kernel_rfl, rfl⟩, rfl, rfl⟩
theorem tyOk103 : TyOk Tryd.prog 103 (ty 103) := ⟨by kernel_rfl, rfl, by kernel_rfl, by kernel_rfl, by kernel_rfl, trivial, rfl, rfl⟩
theorem tyOk104 : TyOk Tryd.prog 104 (ty 104) := ⟨by kernel_rfl, rfl, by kernel_rfl, by kernel_rfl, by kernel_rfl, (show fldsOf _ _ = _ by kernel_rfl), rfl, rfl⟩
theorem tyOk105 : TyOk Tryd.prog 105 (ty 105) := ⟨by kernel_rfl, rfl, by kernel_rfl, by kernel_rfl, by kernel_rfl, (show fldsOf _ _ = _ by kernel_rfl), rfl, rfl⟩
theorem tyOk106 : TyOk Tryd.prog 106 (ty 106) := ⟨by kernel_rfl, rfl, by kernel_rfl, by kernel_rfl, by kernel_rfl, trivial, rfl, rfl⟩
theorem tyOk107 : TyOk Tryd.prog 107 (ty 107) := ⟨by kernel_rfl, rfl, by kernel_rfl, by kernel_rfl, by kernel_rfl, ⟨by kernel_rfl, rfl⟩, rfl, rfl⟩
theorem tyOk109 : TyOk Tryd.prog 109 (ty 109) := ⟨by kernel_rfl, rfl, by kernel_rfl, by kernel_rfl, by kernel_rfl, trivial, rfl, rfl⟩
theorem tyOk110 : TyOk Tryd.prog 110 (ty 110) := ⟨by kernel_rfl, rfl, by kernel_rfl, by kernel_rfl, by kernel_rfl, trivial, rfl, rfl⟩
theorem tyOk111 : TyOk Tryd.prog 111 (ty 111) := ⟨by kernel_rfl, rfl, by kernel_rfl, by kernel_rfl, by kernel_rfl, trivial, rfl, rfl⟩
theorem tyOk112 : TyOk Tryd.prog 112 (ty 112) := ⟨by kernel_rfl, rfl, by kernel_rfl, by kernel_rfl, by kernel_rfl, trivial, rfl, rfl⟩
theorem tyOk113 : TyOk Tryd.prog 113 (ty 113) := ⟨by kernel_rfl, rfl, by kernel_rfl, by kernel_rfl, by kernel_rfl, trivial, rfl, rfl⟩
theorem tyOk114 : TyOk Tryd.prog 114 (ty 114) := ⟨by kernel_rfl, rfl, by kernel_rfl, by kernel_rfl, by kernel_rfl, trivial, rfl, rfl⟩
theorem tyOk115 : TyOk Tryd.prog 115 (ty 115) := ⟨by kernel_rfl, rfl, by kernel_rfl, by kernel_rfl, by kernel_rfl, trivial, rfl, rfl⟩
theorem tyOk116 : TyOk Tryd.prog 116 (ty 116) := ⟨by kernel_rfl, rfl, by kernel_rfl, by kernel_rfl, by kernel_rfl, trivial, rfl, rfl⟩
theorem tyOk117 : TyOk Tryd.prog 117 (ty 117) := ⟨by kernel_rfl, rfl, by kernel_rfl, by kernel_rfl, by kernel_rfl, trivial, rfl, rfl⟩
theorem tyOk118 : TyOk Tryd.prog 118 (ty 118) := ⟨by kernel_rfl, rfl, by kernel_rfl, by kernel_rfl, by kernel_rfl, trivial, rfl, rfl⟩
theorem tyOk119 : TyOk Tryd.prog 119 (ty 119) := ⟨by kernel_rfl, rfl, by kernel_rfl, by kernel_rfl, by kernel_rfl, (show fldsOf _ _ = _ by kernel_rfl), rfl, rfl⟩
theorem tyOk120 : TyOk Tryd.prog 120 (ty 120) := ⟨by kernel_rfl, rfl, by kernel_rfl, by kernel_rfl, by kernel_rfl, (show fldsOf _ _ = _ by kernel_rfl), rfl, rfl⟩
theorem tyOk121 : TyOk Tryd.prog 121 (ty 121) := ⟨by kernel_rfl, rfl, by kernel_rfl, by kernel_rfl, by kernel_rfl, ⟨by kernel_rfl, rfl⟩, rfl, rfl⟩
theorem tyOk122 : TyOk Tryd.prog 122 (ty 122) := ⟨by kernel_rfl, rfl, by kernel_rfl, by kernel_rfl, by kernel_rfl, (show fldsOf _ _ = _ by kernel_rfl), rfl, rfl⟩
theorem tyOk123 : TyOk Tryd.prog 123 (ty 123) := ⟨by kernel_rfl, rfl, by kernel_rfl, by kernel_rfl, by kernel_rfl, (show fldsOf _ _ = _ by kernel_rfl), rfl, rfl⟩
theorem tyOk124 : TyOk Tryd.prog 124 (ty 124) := ⟨by kernel_rfl, rfl, by kernel_rfl, by kernel_rfl, by kernel_rfl, trivial, rfl, rfl⟩
theorem tyOk125 : TyOk Tryd.prog 125 (ty 125) := ⟨by kernel_rfl, rfl, by kernel_rfl, by kernel_rfl, by kernel_rfl, (show Program.underlying Tryd.prog _ = _ by kernel_rfl), rfl, rfl⟩
theorem tyOk126 : TyOk Tryd.prog 126 (ty 126) := ⟨by kernel_rfl, rfl, by kernel_rfl, by kernel_rfl, by kernel_rfl, (show Program.underlying Tryd.prog _ = _ by kernel_rfl), rfl, rfl⟩
theorem tyOk127 : TyOk Tryd.prog 127 (ty 127) := ⟨by kernel_rfl, rfl, by kernel_rfl, by kernel_rfl, by kernel_rfl, trivial, rfl, rfl⟩
theorem tyOk128 : TyOk Tryd.prog 128 (ty 128) := ⟨by kernel_rfl, rfl, by kernel_rfl, by kernel_rfl, by kernel_rfl, (show Program.underlying Tryd.prog _ = _ by kernel_rfl), rfl, rfl⟩
theorem tyOk129 : TyOk Tryd.prog 129 (ty 129) := ⟨by kernel_rfl, rfl, by kernel_rfl, by kernel_rfl, by kernel_rfl, (show Program.underlying Tryd.prog _ = _ by kernel_rfl), rfl, rfl⟩
theorem tyOk130 : TyOk Tryd.prog 130 (ty 130) := ⟨by kernel_rfl, rfl, by kernel_rfl, by kernel_rfl, by kernel_rfl, (show fldsOf _ _ = _ by kernel_rfl), rfl, rfl⟩
theorem tyOk131 : TyOk Tryd.prog 131 (ty 131) := ⟨by kernel_rfl, rfl, by kernel_rfl, by kernel_rfl, by kernel_rfl, (show fldsOf _ _ = _ by kernel_rfl), rfl, rfl⟩
set_option maxRecDepth 100000 in
theorem tyOkL : ∀ t ∈ known, TyOk Tryd.prog t (ty t) :=
  List.forall_mem_cons.2 ⟨tyOk1, List.forall_mem_cons.2 ⟨tyOk2, List.forall_mem_cons.2 ⟨tyOk3, List.forall_mem_cons.2 ⟨tyOk4, List.forall_mem_cons.2 ⟨tyOk5, List.forall_mem_cons.2 ⟨tyOk6, List.forall_mem_cons.2 ⟨tyOk7, List.forall_mem_cons.2 ⟨tyOk8, List.forall_mem_cons.2 ⟨tyOk9, List.forall_mem_cons.2 ⟨tyOk10, List.forall_mem_cons.2 ⟨tyOk11, List.forall_mem_cons.2 ⟨tyOk12, List.forall_mem_cons.2 ⟨tyOk13, List.forall_mem_cons.2 ⟨tyOk14, List.forall_mem_cons.2 ⟨tyOk15, List.forall_mem_cons.2 ⟨tyOk16, List.forall_mem_cons.2 ⟨tyOk17, List.forall_mem_cons.2 ⟨tyOk18, List.forall_mem_cons.2 ⟨tyOk19, List.forall_mem_cons.2 ⟨tyOk20, List.forall_mem_cons.2 ⟨tyOk21, List.forall_mem_cons.2 ⟨tyOk22, List.forall_mem_cons.2 ⟨tyOk23, List.forall_mem_cons.2 ⟨tyOk24, List.forall_mem_cons.2 ⟨tyOk25, List.forall_mem_cons.2 ⟨tyOk26, List.forall_mem_cons.2 ⟨tyOk27, List.forall_mem_cons.2 ⟨tyOk28, List.forall_mem_cons.2 ⟨tyOk29, List.forall_mem_cons.2 ⟨tyOk30, List.forall_mem_cons.2 ⟨tyOk31, List.forall_mem_cons.2 ⟨tyOk32, List.forall_mem_cons.2 ⟨tyOk33, List.forall_mem_cons.2 ⟨tyOk35, List.forall_mem_cons.2 ⟨tyOk36, List.forall_mem_cons.2 ⟨tyOk37, List.forall_mem_cons.2 ⟨tyOk38, List.forall_mem_cons.2 ⟨tyOk39, List.forall_mem_cons.2 ⟨tyOk40, List.forall_mem_cons.2 ⟨tyOk41, List.forall_mem_cons.2 ⟨tyOk42, List.forall_mem_cons.2 ⟨tyOk43, List.forall_mem_cons.2 ⟨tyOk44, List.forall_mem_cons.2 ⟨tyOk45, List.forall_mem_cons.2 ⟨tyOk47, List.forall_mem_cons.2 ⟨tyOk48, List.forall_mem_cons.2 ⟨tyOk49, List.forall_mem_cons.2 ⟨tyOk50, List.forall_mem_cons.2 ⟨tyOk51, List.forall_mem_cons.2 ⟨tyOk52, List.forall_mem_cons.2 ⟨tyOk53, List.forall_mem_cons.2 ⟨tyOk54, List.forall_mem_cons.2 ⟨tyOk55, List.forall_mem_cons.2 ⟨tyOk56, List.forall_mem_cons.2 ⟨tyOk58, List.forall_mem_cons.2 ⟨tyOk59, List.forall_mem_cons.2 ⟨tyOk60, List.forall_mem_cons.2 ⟨tyOk61, List.forall_mem_cons.2 ⟨tyOk62, List.forall_mem_cons.2 ⟨tyOk63, List.forall_mem_cons.2 ⟨tyOk64, List.forall_mem_cons.2 ⟨tyOk65, List.forall_mem_cons.2 ⟨tyOk66, List.forall_mem_cons.2 ⟨tyOk67, List.forall_mem_cons.2 ⟨tyOk68, List.forall_mem_cons.2 ⟨tyOk69, List.forall_mem_cons.2 ⟨tyOk70, List.forall_mem_cons.2 ⟨tyOk71, List.forall_mem_cons.2 ⟨tyOk72, List.forall_mem_cons.2 ⟨tyOk73, List.forall_mem_cons.2 ⟨tyOk75, List.forall_mem_cons.2 ⟨tyOk76, List.forall_mem_cons.2 ⟨tyOk77, List.forall_mem_cons.2 ⟨tyOk78, List.forall_mem_cons.2 ⟨tyOk79, List.forall_mem_cons.2 ⟨tyOk80, List.forall_mem_cons.2 ⟨tyOk81, List.forall_mem_cons.2 ⟨tyOk82, List.forall_mem_cons.2 ⟨tyOk83, List.forall_mem_cons.2 ⟨tyOk84, List.forall_mem_cons.2 ⟨tyOk85, List.forall_mem_cons.2 ⟨tyOk87, List.forall_mem_cons.2 ⟨tyOk88, List.forall_mem_cons.2 ⟨tyOk89, List.forall_mem_cons.2 ⟨tyOk90, List.forall_mem_cons.2 ⟨tyOk91, List.forall_mem_cons.2 ⟨tyOk92, List.forall_mem_cons.2 ⟨tyOk93, List.forall_mem_cons.2 ⟨tyOk94, List.forall_mem_cons.2 ⟨tyOk95, List.forall_mem_cons.2 ⟨tyOk96, List.forall_mem_cons.2 ⟨tyOk97, List.forall_mem_cons.2 ⟨tyOk98, List.forall_mem_cons.2 ⟨tyOk99, List.forall_mem_cons.2 ⟨tyOk101, List.forall_mem_cons.2 ⟨tyOk103, List.forall_mem_cons.2 ⟨tyOk104, List.forall_mem_cons.2 ⟨tyOk105, List.forall_mem_cons.2 ⟨tyOk106, List.forall_mem_cons.2 ⟨tyOk107, List.forall_mem_cons.2 ⟨tyOk109, List.forall_mem_cons.2 ⟨tyOk110, List.forall_mem_cons.2 ⟨tyOk111, List.forall_mem_cons.2 ⟨tyOk112, List.forall_mem_cons.2 ⟨tyOk113, List.forall_mem_cons.2 ⟨tyOk114, List.forall_mem_cons.2 ⟨tyOk115, List.forall_mem_cons.2 ⟨tyOk116, List.forall_mem_cons.2 ⟨tyOk117, List.forall_mem_cons.2 ⟨tyOk118, List.forall_mem_cons.2 ⟨tyOk119, List.forall_mem_cons.2 ⟨tyOk120, List.forall_mem_cons.2 ⟨tyOk121, List.forall_mem_cons.2 ⟨tyOk122, List.forall_mem_cons.2 ⟨tyOk123, List.forall_mem_cons.2 ⟨tyOk124, List.forall_mem_cons.2 ⟨tyOk125, List.forall_mem_cons.2 ⟨tyOk126, List.forall_mem_cons.2 ⟨tyOk127, List.forall_mem_cons.2 ⟨tyOk128, List.forall_mem_cons.2 ⟨tyOk129, List.forall_mem_cons.2 ⟨tyOk130, List.forall_mem_cons.2 ⟨tyOk131, (fun _ h => by cases h)⟩⟩⟩⟩⟩⟩⟩⟩⟩⟩⟩⟩⟩⟩⟩⟩⟩⟩⟩⟩⟩⟩⟩⟩⟩⟩⟩⟩⟩⟩⟩⟩⟩⟩⟩⟩⟩⟩⟩⟩⟩⟩⟩⟩⟩⟩⟩⟩⟩⟩⟩⟩⟩⟩⟩⟩⟩⟩⟩⟩⟩⟩⟩⟩⟩⟩⟩⟩⟩⟩⟩⟩⟩⟩⟩⟩⟩⟩⟩⟩⟩⟩⟩⟩⟩⟩⟩⟩⟩⟩⟩⟩⟩⟩⟩⟩⟩⟩⟩⟩⟩⟩⟩⟩⟩⟩⟩⟩⟩⟩⟩⟩⟩⟩⟩⟩⟩⟩⟩⟩⟩⟩⟩
theorem tyOk (t : Nat) (h : tyKnown t = true) : TyOk Tryd.prog t (ty t) := tyOkL t (by unfold tyKnown at h; simpa using h)
end Go.Proofs.YtgedpbpfoaljhaaDoor.Vm
