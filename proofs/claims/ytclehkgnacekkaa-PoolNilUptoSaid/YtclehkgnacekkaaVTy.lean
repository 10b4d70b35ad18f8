/- The types of Ytclehkgnacekkaa, as the machine of values has them; each is held against the program. Printed by gen_vty.py. -/
import Derived.Test.YtclehkgnacekkaaChecked
import Derived.WalkKit
namespace Go.Proofs.Ytclehkgnacekkaa.Vm
/-- What kind of type: just what the machine asks. -/
inductive TK where
  | int (k : IntKind)
  | bool
  | str
  | slice
  | struct
  | array
  | map
  | ptr
  | other
/-- A type: is it an aggregate; its cells; its zero value; a struct's fields: where each lies, its cells, its type; a slice's elements. -/
structure TI where
  kind : TK := .other
  agg : Bool := false
  sz : Nat := 1
  zero : List Value := []
  flds : List (Nat × Nat) := []
  fty : List Nat := []
  elem : Option Nat := none
  key : Option Nat := none
  val : Option Nat := none
  alen : Nat := 0
def aggOf : Option TypeDesc → Option Bool
  | some (.struct _) => some true
  | some (.array _ _) => some true
  | some _ => some false
  | none => none
def fldsOf (P : Program) : Option TypeDesc → Option (List (Nat × Option Nat) × List Nat)
  | some (.struct fs) => some (fs.toList.map (fun f => (f.offset, (P.info? f.type).map (·.size))), fs.toList.map (·.type))
  | _ => none
def kindOk (P : Program) (t : Nat) (i : TI) : Prop := match i.kind with
  | .int k => P.underlying t = some (.int k)
  | .bool => P.underlying t = some .bool
  | .str => P.underlying t = some .string
  | .slice => P.underlying t = i.elem.map .slice ∧ i.elem.isSome = true
  | .ptr => P.underlying t = i.val.map .pointer ∧ i.val.isSome = true
  | .array => P.underlying t = i.val.map (.array i.alen) ∧ i.val.isSome = true
  | .map => P.underlying t = (i.key.bind fun k => i.val.map fun e => .map k e) ∧ i.key.isSome = true ∧ i.val.isSome = true
  | .struct => fldsOf P (P.underlying t) = some (i.flds.map (fun x => (x.1, some x.2)), i.fty)
  | _ => True
def isAggV : Value → Bool
  | .agg _ => true
  | _ => false
/-- The table tells the truth. -/
structure TyOk (P : Program) (t : Nat) (i : TI) : Prop where
  info : (P.info? t).map (fun x => (x.size, x.zero.map Value.cells)) = some (i.sz, some i.zero.toArray)
  len : i.zero.length = i.sz
  zag : ((P.info? t).bind (·.zero)).map isAggV = some i.agg
  bytes : ((P.info? t).map fun x => decide (x.bytes ≤ 1024)) = some true
  agg : aggOf (P.underlying t) = some i.agg
  under : kindOk P t i
  elem : (match i.kind with | .slice => true | _ => i.elem.isNone) = true
  flds : (match i.kind with | .struct => true | _ => i.flds.isEmpty) = true
def ty (n : Nat) : TI := match Nat.blt n 107 with
  | true => match Nat.blt n 53 with
    | true => match Nat.blt n 26 with
      | true => match Nat.blt n 13 with
        | true => match Nat.blt n 6 with
          | true => match Nat.blt n 3 with
            | true => match Nat.blt n 1 with
              | true => { kind := .other }
              | false => match Nat.blt n 2 with
                | true => { sz := 1, zero := [.nilFunc] }
                | false => { kind := .int .i64, sz := 1, zero := [.int .i64 0] }
            | false => match Nat.blt n 4 with
              | true => { kind := .int .i64, sz := 1, zero := [.int .i64 0] }
              | false => match Nat.blt n 5 with
                | true => { kind := .bool, sz := 1, zero := [.bool false] }
                | false => { kind := .int .u8, sz := 1, zero := [.int .u8 0] }
          | false => match Nat.blt n 9 with
            | true => match Nat.blt n 7 with
              | true => { kind := .int .u8, sz := 1, zero := [.int .u8 0] }
              | false => match Nat.blt n 8 with
                | true => { kind := .struct, agg := true, sz := 4, zero := [.int .i64 0, .int .i64 0, .bool false, .int .u8 0], flds := [(0, 1), (1, 1), (2, 1), (3, 1)], fty := [2, 3, 4, 6] }
                | false => { kind := .struct, agg := true, sz := 4, zero := [.int .i64 0, .int .i64 0, .bool false, .int .u8 0], flds := [(0, 1), (1, 1), (2, 1), (3, 1)], fty := [2, 3, 4, 6] }
            | false => match Nat.blt n 11 with
              | true => match Nat.blt n 10 with
                | true => { kind := .str, sz := 1, zero := [.string ⟨#[]⟩] }
                | false => { kind := .str, sz := 1, zero := [.string ⟨#[]⟩] }
              | false => match Nat.blt n 12 with
                | true => { kind := .str, sz := 1, zero := [.string ⟨#[]⟩] }
                | false => { kind := .int .u64, sz := 1, zero := [.int .u64 0] }
        | false => match Nat.blt n 19 with
          | true => match Nat.blt n 16 with
            | true => match Nat.blt n 14 with
              | true => { kind := .struct, agg := true, sz := 2, zero := [.string ⟨#[]⟩, .int .u64 0], flds := [(0, 1), (1, 1)], fty := [9, 12] }
              | false => match Nat.blt n 15 with
                | true => { kind := .struct, agg := true, sz := 2, zero := [.string ⟨#[]⟩, .int .u64 0], flds := [(0, 1), (1, 1)], fty := [9, 12] }
                | false => { kind := .ptr, sz := 1, zero := [.pointer none], val := some 200 }
            | false => match Nat.blt n 17 with
              | true => { kind := .ptr, sz := 1, zero := [.pointer none], val := some 203 }
              | false => match Nat.blt n 18 with
                | true => { kind := .ptr, sz := 1, zero := [.pointer none], val := some 213 }
                | false => { kind := .struct, agg := true, sz := 1, zero := [.pointer none], flds := [(0, 1)], fty := [17] }
          | false => match Nat.blt n 22 with
            | true => match Nat.blt n 20 with
              | true => { kind := .struct, agg := true, sz := 1, zero := [.pointer none], flds := [(0, 1)], fty := [17] }
              | false => match Nat.blt n 21 with
                | true => { sz := 1, zero := [.nilIface] }
                | false => { kind := .int .i32, sz := 1, zero := [.int .i32 0] }
            | false => match Nat.blt n 24 with
              | true => match Nat.blt n 23 with
                | true => { kind := .int .u8, sz := 1, zero := [.int .u8 0] }
                | false => { kind := .slice, sz := 1, zero := [.slice none 0 0], elem := some 25 }
              | false => match Nat.blt n 25 with
                | true => { kind := .struct, agg := true, sz := 4, zero := [.int .u8 0, .string ⟨#[]⟩, .int .i64 0, .slice none 0 0], flds := [(0, 1), (1, 1), (2, 1), (3, 1)], fty := [22, 9, 3, 23] }
                | false => { kind := .struct, agg := true, sz := 4, zero := [.int .u8 0, .string ⟨#[]⟩, .int .i64 0, .slice none 0 0], flds := [(0, 1), (1, 1), (2, 1), (3, 1)], fty := [22, 9, 3, 23] }
      | false => match Nat.blt n 39 with
        | true => match Nat.blt n 32 with
          | true => match Nat.blt n 29 with
            | true => match Nat.blt n 27 with
              | true => { sz := 1, zero := [.nilFunc] }
              | false => match Nat.blt n 28 with
                | true => { sz := 1, zero := [.nilFunc] }
                | false => { kind := .slice, sz := 1, zero := [.slice none 0 0], elem := some 37 }
            | false => match Nat.blt n 30 with
              | true => { kind := .other }
              | false => match Nat.blt n 31 with
                | true => { sz := 1, zero := [.nilFunc] }
                | false => { sz := 1, zero := [.nilFunc] }
          | false => match Nat.blt n 35 with
            | true => match Nat.blt n 33 with
              | true => { kind := .slice, sz := 1, zero := [.slice none 0 0], elem := some 38 }
              | false => match Nat.blt n 34 with
                | true => { kind := .other }
                | false => { sz := 1, zero := [.nilFunc] }
            | false => match Nat.blt n 37 with
              | true => match Nat.blt n 36 with
                | true => { sz := 1, zero := [.nilFunc] }
                | false => { kind := .struct, agg := true, sz := 5, zero := [.int .i64 0, .int .u8 0, .string ⟨#[]⟩, .int .i64 0, .slice none 0 0], flds := [(0, 1), (1, 4)], fty := [3, 25] }
              | false => match Nat.blt n 38 with
                | true => { kind := .struct, agg := true, sz := 5, zero := [.int .i64 0, .int .u8 0, .string ⟨#[]⟩, .int .i64 0, .slice none 0 0], flds := [(0, 1), (1, 4)], fty := [3, 25] }
                | false => { kind := .struct, agg := true, sz := 5, zero := [.int .i64 0, .int .u8 0, .string ⟨#[]⟩, .int .i64 0, .slice none 0 0], flds := [(0, 1), (1, 4)], fty := [3, 25] }
        | false => match Nat.blt n 46 with
          | true => match Nat.blt n 42 with
            | true => match Nat.blt n 40 with
              | true => { sz := 1, zero := [.nilFunc] }
              | false => match Nat.blt n 41 with
                | true => { sz := 1, zero := [.nilFunc] }
                | false => { sz := 1, zero := [.nilFunc] }
            | false => match Nat.blt n 44 with
              | true => match Nat.blt n 43 with
                | true => { sz := 1, zero := [.nilFunc] }
                | false => { sz := 1, zero := [.nilFunc] }
              | false => match Nat.blt n 45 with
                | true => { kind := .ptr, sz := 1, zero := [.pointer none], val := some 92 }
                | false => { sz := 1, zero := [.nilFunc] }
          | false => match Nat.blt n 49 with
            | true => match Nat.blt n 47 with
              | true => { kind := .int .i64, sz := 1, zero := [.int .i64 0] }
              | false => match Nat.blt n 48 with
                | true => { kind := .int .u8, sz := 1, zero := [.int .u8 0] }
                | false => { kind := .other }
            | false => match Nat.blt n 51 with
              | true => match Nat.blt n 50 with
                | true => { sz := 1, zero := [.nilFunc] }
                | false => { kind := .slice, sz := 1, zero := [.slice none 0 0], elem := some 3 }
              | false => match Nat.blt n 52 with
                | true => { sz := 1, zero := [.nilFunc] }
                | false => { kind := .other }
    | false => match Nat.blt n 80 with
      | true => match Nat.blt n 66 with
        | true => match Nat.blt n 59 with
          | true => match Nat.blt n 56 with
            | true => match Nat.blt n 54 with
              | true => { sz := 1, zero := [.nilFunc] }
              | false => match Nat.blt n 55 with
                | true => { kind := .other }
                | false => { sz := 1, zero := [.nilFunc] }
            | false => match Nat.blt n 57 with
              | true => { kind := .ptr, sz := 1, zero := [.pointer none], val := some 59 }
              | false => match Nat.blt n 58 with
                | true => { kind := .slice, sz := 1, zero := [.slice none 0 0], elem := some 99 }
                | false => { kind := .struct, agg := true, sz := 1, zero := [.slice none 0 0], flds := [(0, 1)], fty := [57] }
          | false => match Nat.blt n 62 with
            | true => match Nat.blt n 60 with
              | true => { kind := .struct, agg := true, sz := 1, zero := [.slice none 0 0], flds := [(0, 1)], fty := [57] }
              | false => match Nat.blt n 61 with
                | true => { kind := .slice, sz := 1, zero := [.slice none 0 0], elem := some 46 }
                | false => { sz := 1, zero := [.nilFunc] }
            | false => match Nat.blt n 64 with
              | true => match Nat.blt n 63 with
                | true => { sz := 1, zero := [.nilFunc] }
                | false => { sz := 1, zero := [.nilFunc] }
              | false => match Nat.blt n 65 with
                | true => { kind := .slice, sz := 1, zero := [.slice none 0 0], elem := some 115 }
                | false => { kind := .other }
        | false => match Nat.blt n 73 with
          | true => match Nat.blt n 69 with
            | true => match Nat.blt n 67 with
              | true => { sz := 1, zero := [.nilFunc] }
              | false => match Nat.blt n 68 with
                | true => { sz := 1, zero := [.nilFunc] }
                | false => { sz := 1, zero := [.nilFunc] }
            | false => match Nat.blt n 71 with
              | true => match Nat.blt n 70 with
                | true => { sz := 1, zero := [.nilFunc] }
                | false => { sz := 1, zero := [.nilFunc] }
              | false => match Nat.blt n 72 with
                | true => { kind := .other }
                | false => { sz := 1, zero := [.nilFunc] }
          | false => match Nat.blt n 76 with
            | true => match Nat.blt n 74 with
              | true => { sz := 1, zero := [.nilFunc] }
              | false => match Nat.blt n 75 with
                | true => { sz := 1, zero := [.nilFunc] }
                | false => { sz := 1, zero := [.nilFunc] }
            | false => match Nat.blt n 78 with
              | true => match Nat.blt n 77 with
                | true => { sz := 1, zero := [.nilFunc] }
                | false => { kind := .map, sz := 1, zero := [.map none], key := some 3, val := some 25 }
              | false => match Nat.blt n 79 with
                | true => { kind := .struct, agg := true, sz := 1, zero := [.map none], flds := [(0, 1)], fty := [77] }
                | false => { kind := .struct, agg := true, sz := 1, zero := [.map none], flds := [(0, 1)], fty := [77] }
      | false => match Nat.blt n 93 with
        | true => match Nat.blt n 86 with
          | true => match Nat.blt n 83 with
            | true => match Nat.blt n 81 with
              | true => { sz := 1, zero := [.nilFunc] }
              | false => match Nat.blt n 82 with
                | true => { sz := 1, zero := [.nilFunc] }
                | false => { kind := .slice, sz := 1, zero := [.slice none 0 0], elem := some 86 }
            | false => match Nat.blt n 84 with
              | true => { kind := .other }
              | false => match Nat.blt n 85 with
                | true => { sz := 1, zero := [.nilFunc] }
                | false => { kind := .struct, agg := true, sz := 5, zero := [.string ⟨#[]⟩, .int .u8 0, .string ⟨#[]⟩, .int .i64 0, .slice none 0 0], flds := [(0, 1), (1, 4)], fty := [9, 25] }
          | false => match Nat.blt n 89 with
            | true => match Nat.blt n 87 with
              | true => { kind := .struct, agg := true, sz := 5, zero := [.string ⟨#[]⟩, .int .u8 0, .string ⟨#[]⟩, .int .i64 0, .slice none 0 0], flds := [(0, 1), (1, 4)], fty := [9, 25] }
              | false => match Nat.blt n 88 with
                | true => { sz := 1, zero := [.nilFunc] }
                | false => { kind := .map, sz := 1, zero := [.map none], key := some 105, val := some 46 }
            | false => match Nat.blt n 91 with
              | true => match Nat.blt n 90 with
                | true => { kind := .map, sz := 1, zero := [.map none], key := some 3, val := some 46 }
                | false => { kind := .slice, sz := 1, zero := [.slice none 0 0], elem := some 108 }
              | false => match Nat.blt n 92 with
                | true => { kind := .struct, agg := true, sz := 4, zero := [.slice none 0 0, .map none, .map none, .int .i64 0], flds := [(0, 1), (1, 1), (2, 1), (3, 1)], fty := [90, 88, 89, 3] }
                | false => { kind := .struct, agg := true, sz := 4, zero := [.slice none 0 0, .map none, .map none, .int .i64 0], flds := [(0, 1), (1, 1), (2, 1), (3, 1)], fty := [90, 88, 89, 3] }
        | false => match Nat.blt n 100 with
          | true => match Nat.blt n 96 with
            | true => match Nat.blt n 94 with
              | true => { sz := 1, zero := [.nilFunc] }
              | false => match Nat.blt n 95 with
                | true => { sz := 1, zero := [.nilFunc] }
                | false => { sz := 1, zero := [.nilFunc] }
            | false => match Nat.blt n 98 with
              | true => match Nat.blt n 97 with
                | true => { sz := 1, zero := [.nilFunc] }
                | false => { sz := 1, zero := [.nilFunc] }
              | false => match Nat.blt n 99 with
                | true => { kind := .struct, agg := true, sz := 8, zero := [.int .i64 0, .bool false, .int .i64 0, .bool false, .int .u8 0, .string ⟨#[]⟩, .int .i64 0, .slice none 0 0], flds := [(0, 1), (1, 1), (2, 1), (3, 1), (4, 4)], fty := [3, 4, 3, 4, 25] }
                | false => { kind := .struct, agg := true, sz := 8, zero := [.int .i64 0, .bool false, .int .i64 0, .bool false, .int .u8 0, .string ⟨#[]⟩, .int .i64 0, .slice none 0 0], flds := [(0, 1), (1, 1), (2, 1), (3, 1), (4, 4)], fty := [3, 4, 3, 4, 25] }
          | false => match Nat.blt n 103 with
            | true => match Nat.blt n 101 with
              | true => { kind := .slice, sz := 1, zero := [.slice none 0 0], elem := some 4 }
              | false => match Nat.blt n 102 with
                | true => { kind := .other }
                | false => { sz := 1, zero := [.nilFunc] }
            | false => match Nat.blt n 105 with
              | true => match Nat.blt n 104 with
                | true => { sz := 1, zero := [.nilFunc] }
                | false => { kind := .struct, agg := true, sz := 4, zero := [.int .u8 0, .string ⟨#[]⟩, .int .i64 0, .int .i64 0], flds := [(0, 1), (1, 1), (2, 1), (3, 1)], fty := [22, 9, 46, 46] }
              | false => match Nat.blt n 106 with
                | true => { kind := .struct, agg := true, sz := 4, zero := [.int .u8 0, .string ⟨#[]⟩, .int .i64 0, .int .i64 0], flds := [(0, 1), (1, 1), (2, 1), (3, 1)], fty := [22, 9, 46, 46] }
                | false => { sz := 1, zero := [.nilFunc] }
  | false => match Nat.blt n 161 with
    | true => match Nat.blt n 134 with
      | true => match Nat.blt n 120 with
        | true => match Nat.blt n 113 with
          | true => match Nat.blt n 110 with
            | true => match Nat.blt n 108 with
              | true => { kind := .struct, agg := true, sz := 7, zero := [.int .u8 0, .string ⟨#[]⟩, .int .i64 0, .int .i64 0, .int .i64 0, .int .i64 0, .int .i64 0], flds := [(0, 4), (4, 1), (5, 1), (6, 1)], fty := [105, 3, 3, 46] }
              | false => match Nat.blt n 109 with
                | true => { kind := .struct, agg := true, sz := 7, zero := [.int .u8 0, .string ⟨#[]⟩, .int .i64 0, .int .i64 0, .int .i64 0, .int .i64 0, .int .i64 0], flds := [(0, 4), (4, 1), (5, 1), (6, 1)], fty := [105, 3, 3, 46] }
                | false => { kind := .ptr, sz := 1, zero := [.pointer none], val := some 108 }
            | false => match Nat.blt n 111 with
              | true => { sz := 1, zero := [.nilFunc] }
              | false => match Nat.blt n 112 with
                | true => { sz := 1, zero := [.nilFunc] }
                | false => { kind := .other }
          | false => match Nat.blt n 116 with
            | true => match Nat.blt n 114 with
              | true => { sz := 1, zero := [.nilFunc] }
              | false => match Nat.blt n 115 with
                | true => { kind := .struct, agg := true, sz := 2, zero := [.string ⟨#[]⟩, .int .i64 0], flds := [(0, 1), (1, 1)], fty := [9, 46] }
                | false => { kind := .struct, agg := true, sz := 2, zero := [.string ⟨#[]⟩, .int .i64 0], flds := [(0, 1), (1, 1)], fty := [9, 46] }
            | false => match Nat.blt n 118 with
              | true => match Nat.blt n 117 with
                | true => { sz := 1, zero := [.nilFunc] }
                | false => { sz := 1, zero := [.nilFunc] }
              | false => match Nat.blt n 119 with
                | true => { sz := 1, zero := [.nilFunc] }
                | false => { sz := 1, zero := [.nilFunc] }
        | false => match Nat.blt n 127 with
          | true => match Nat.blt n 123 with
            | true => match Nat.blt n 121 with
              | true => { sz := 1, zero := [.nilFunc] }
              | false => match Nat.blt n 122 with
                | true => { kind := .map, sz := 1, zero := [.map none], key := some 46, val := some 4 }
                | false => { sz := 1, zero := [.nilFunc] }
            | false => match Nat.blt n 125 with
              | true => match Nat.blt n 124 with
                | true => { sz := 1, zero := [.nilFunc] }
                | false => { sz := 1, zero := [.nilFunc] }
              | false => match Nat.blt n 126 with
                | true => { sz := 1, zero := [.nilFunc] }
                | false => { sz := 1, zero := [.nilFunc] }
          | false => match Nat.blt n 130 with
            | true => match Nat.blt n 128 with
              | true => { sz := 1, zero := [.nilFunc] }
              | false => match Nat.blt n 129 with
                | true => { kind := .slice, sz := 1, zero := [.slice none 0 0], elem := some 132 }
                | false => { kind := .other }
            | false => match Nat.blt n 132 with
              | true => match Nat.blt n 131 with
                | true => { sz := 1, zero := [.nilFunc] }
                | false => { kind := .struct, agg := true, sz := 8, zero := [.int .u8 0, .string ⟨#[]⟩, .int .i64 0, .slice none 0 0, .int .u8 0, .string ⟨#[]⟩, .int .i64 0, .slice none 0 0], flds := [(0, 4), (4, 4)], fty := [25, 25] }
              | false => match Nat.blt n 133 with
                | true => { kind := .struct, agg := true, sz := 8, zero := [.int .u8 0, .string ⟨#[]⟩, .int .i64 0, .slice none 0 0, .int .u8 0, .string ⟨#[]⟩, .int .i64 0, .slice none 0 0], flds := [(0, 4), (4, 4)], fty := [25, 25] }
                | false => { sz := 1, zero := [.nilFunc] }
      | false => match Nat.blt n 147 with
        | true => match Nat.blt n 140 with
          | true => match Nat.blt n 137 with
            | true => match Nat.blt n 135 with
              | true => { sz := 1, zero := [.nilFunc] }
              | false => match Nat.blt n 136 with
                | true => { sz := 1, zero := [.nilFunc] }
                | false => { sz := 1, zero := [.nilFunc] }
            | false => match Nat.blt n 138 with
              | true => { sz := 1, zero := [.nilFunc] }
              | false => match Nat.blt n 139 with
                | true => { sz := 1, zero := [.nilFunc] }
                | false => { kind := .map, sz := 1, zero := [.map none], key := some 3, val := some 4 }
          | false => match Nat.blt n 143 with
            | true => match Nat.blt n 141 with
              | true => { kind := .map, sz := 1, zero := [.map none], key := some 3, val := some 4 }
              | false => match Nat.blt n 142 with
                | true => { sz := 1, zero := [.nilFunc] }
                | false => { sz := 1, zero := [.nilFunc] }
            | false => match Nat.blt n 145 with
              | true => match Nat.blt n 144 with
                | true => { sz := 1, zero := [.nilFunc] }
                | false => { sz := 1, zero := [.nilFunc] }
              | false => match Nat.blt n 146 with
                | true => { sz := 1, zero := [.nilFunc] }
                | false => { sz := 1, zero := [.nilFunc] }
        | false => match Nat.blt n 154 with
          | true => match Nat.blt n 150 with
            | true => match Nat.blt n 148 with
              | true => { sz := 1, zero := [.nilFunc] }
              | false => match Nat.blt n 149 with
                | true => { sz := 1, zero := [.nilFunc] }
                | false => { sz := 1, zero := [.nilFunc] }
            | false => match Nat.blt n 152 with
              | true => match Nat.blt n 151 with
                | true => { sz := 1, zero := [.nilFunc] }
                | false => { sz := 1, zero := [.nilFunc] }
              | false => match Nat.blt n 153 with
                | true => { kind := .other }
                | false => { sz := 1, zero := [.nilFunc] }
          | false => match Nat.blt n 157 with
            | true => match Nat.blt n 155 with
              | true => { sz := 1, zero := [.nilFunc] }
              | false => match Nat.blt n 156 with
                | true => { sz := 1, zero := [.nilFunc] }
                | false => { sz := 1, zero := [.nilFunc] }
            | false => match Nat.blt n 159 with
              | true => match Nat.blt n 158 with
                | true => { sz := 1, zero := [.nilFunc] }
                | false => { sz := 1, zero := [.nilFunc] }
              | false => match Nat.blt n 160 with
                | true => { sz := 1, zero := [.nilFunc] }
                | false => { sz := 1, zero := [.nilFunc] }
    | false => match Nat.blt n 188 with
      | true => match Nat.blt n 174 with
        | true => match Nat.blt n 167 with
          | true => match Nat.blt n 164 with
            | true => match Nat.blt n 162 with
              | true => { sz := 1, zero := [.nilFunc] }
              | false => match Nat.blt n 163 with
                | true => { sz := 1, zero := [.nilFunc] }
                | false => { kind := .map, sz := 1, zero := [.map none], key := some 46, val := some 3 }
            | false => match Nat.blt n 165 with
              | true => { kind := .slice, sz := 1, zero := [.slice none 0 0], elem := some 166 }
              | false => match Nat.blt n 166 with
                | true => { sz := 1, zero := [.nilFunc] }
                | false => { kind := .array, agg := true, sz := 2, zero := [.int .i64 0, .int .i64 0], val := some 46, alen := 2 }
          | false => match Nat.blt n 170 with
            | true => match Nat.blt n 168 with
              | true => { sz := 1, zero := [.nilFunc] }
              | false => match Nat.blt n 169 with
                | true => { sz := 1, zero := [.nilFunc] }
                | false => { sz := 1, zero := [.nilFunc] }
            | false => match Nat.blt n 172 with
              | true => match Nat.blt n 171 with
                | true => { kind := .struct, agg := true, sz := 2, zero := [.slice none 0 0, .int .i64 0], flds := [(0, 1), (1, 1)], fty := [64, 46] }
                | false => { kind := .struct, agg := true, sz := 2, zero := [.slice none 0 0, .int .i64 0], flds := [(0, 1), (1, 1)], fty := [64, 46] }
              | false => match Nat.blt n 173 with
                | true => { kind := .other }
                | false => { sz := 1, zero := [.nilFunc] }
        | false => match Nat.blt n 181 with
          | true => match Nat.blt n 177 with
            | true => match Nat.blt n 175 with
              | true => { sz := 1, zero := [.nilFunc] }
              | false => match Nat.blt n 176 with
                | true => { sz := 1, zero := [.nilFunc] }
                | false => { sz := 1, zero := [.nilFunc] }
            | false => match Nat.blt n 179 with
              | true => match Nat.blt n 178 with
                | true => { sz := 1, zero := [.nilFunc] }
                | false => { kind := .slice, sz := 1, zero := [.slice none 0 0], elem := some 9 }
              | false => match Nat.blt n 180 with
                | true => { kind := .other }
                | false => { sz := 1, zero := [.nilFunc] }
          | false => match Nat.blt n 184 with
            | true => match Nat.blt n 182 with
              | true => { sz := 1, zero := [.nilFunc] }
              | false => match Nat.blt n 183 with
                | true => { sz := 1, zero := [.nilFunc] }
                | false => { sz := 1, zero := [.nilFunc] }
            | false => match Nat.blt n 186 with
              | true => match Nat.blt n 185 with
                | true => { sz := 1, zero := [.nilFunc] }
                | false => { sz := 1, zero := [.nilFunc] }
              | false => match Nat.blt n 187 with
                | true => { sz := 1, zero := [.nilFunc] }
                | false => { kind := .other }
      | false => match Nat.blt n 201 with
        | true => match Nat.blt n 194 with
          | true => match Nat.blt n 191 with
            | true => match Nat.blt n 189 with
              | true => { sz := 1, zero := [.nilFunc] }
              | false => match Nat.blt n 190 with
                | true => { sz := 1, zero := [.nilFunc] }
                | false => { kind := .other }
            | false => match Nat.blt n 192 with
              | true => { sz := 1, zero := [.nilFunc] }
              | false => match Nat.blt n 193 with
                | true => { kind := .other }
                | false => { sz := 1, zero := [.nilFunc] }
          | false => match Nat.blt n 197 with
            | true => match Nat.blt n 195 with
              | true => { sz := 1, zero := [.nilFunc] }
              | false => match Nat.blt n 196 with
                | true => { sz := 1, zero := [.nilFunc] }
                | false => { kind := .int .u64, sz := 1, zero := [.int .u64 0] }
            | false => match Nat.blt n 199 with
              | true => match Nat.blt n 198 with
                | true => { sz := 1, zero := [.nilFunc] }
                | false => { sz := 1, zero := [.nilFunc] }
              | false => match Nat.blt n 200 with
                | true => { kind := .struct, agg := true, sz := 4, zero := [.pointer none, .pointer none, .pointer none, .string ⟨#[]⟩], flds := [(0, 1), (1, 1), (2, 1), (3, 1)], fty := [17, 17, 17, 9] }
                | false => { kind := .struct, agg := true, sz := 4, zero := [.pointer none, .pointer none, .pointer none, .string ⟨#[]⟩], flds := [(0, 1), (1, 1), (2, 1), (3, 1)], fty := [17, 17, 17, 9] }
        | false => match Nat.blt n 208 with
          | true => match Nat.blt n 204 with
            | true => match Nat.blt n 202 with
              | true => { kind := .array, agg := true, sz := 0, zero := [], val := some 16, alen := 0 }
              | false => match Nat.blt n 203 with
                | true => { kind := .struct, agg := true, sz := 0, zero := [], flds := [(0, 0)], fty := [201] }
                | false => { kind := .struct, agg := true, sz := 0, zero := [], flds := [(0, 0)], fty := [201] }
            | false => match Nat.blt n 206 with
              | true => match Nat.blt n 205 with
                | true => { sz := 1, zero := [.nilFunc] }
                | false => { kind := .int .u32, sz := 1, zero := [.int .u32 0] }
              | false => match Nat.blt n 207 with
                | true => { kind := .int .u8, sz := 1, zero := [.int .u8 0] }
                | false => { kind := .int .u8, sz := 1, zero := [.int .u8 0] }
          | false => match Nat.blt n 211 with
            | true => match Nat.blt n 209 with
              | true => { sz := 1, zero := [.nilFunc] }
              | false => match Nat.blt n 210 with
                | true => { kind := .ptr, sz := 1, zero := [.pointer none], val := some 5 }
                | false => { kind := .int .i32, sz := 1, zero := [.int .i32 0] }
            | false => match Nat.blt n 213 with
              | true => match Nat.blt n 212 with
                | true => { kind := .int .i32, sz := 1, zero := [.int .i32 0] }
                | false => { kind := .struct, agg := true, sz := 11, zero := [.int .u64 0, .int .u64 0, .int .u32 0, .int .u8 0, .int .u8 0, .int .u8 0, .int .u8 0, .nilFunc, .pointer none, .int .i32 0, .int .i32 0], flds := [(0, 1), (1, 1), (2, 1), (3, 1), (4, 1), (5, 1), (6, 1), (7, 1), (8, 1), (9, 1), (10, 1)], fty := [12, 12, 205, 206, 5, 5, 207, 208, 209, 210, 211] }
              | false => match Nat.blt n 214 with
                | true => { kind := .struct, agg := true, sz := 11, zero := [.int .u64 0, .int .u64 0, .int .u32 0, .int .u8 0, .int .u8 0, .int .u8 0, .int .u8 0, .nilFunc, .pointer none, .int .i32 0, .int .i32 0], flds := [(0, 1), (1, 1), (2, 1), (3, 1), (4, 1), (5, 1), (6, 1), (7, 1), (8, 1), (9, 1), (10, 1)], fty := [12, 12, 205, 206, 5, 5, 207, 208, 209, 210, 211] }
                | false => { sz := 1, zero := [.pointer none] }
/-- Struct types that are keys of maps. -/
def skeys : List Nat := [105]
def skeyOk (P : Program) (t : Nat) : Bool := !P.stoodInHeld t && (match P.underlying t with | some (.struct fs) => fs.toList.all (fun f => f.name != "_") | _ => false)
theorem skeysOk : ∀ t ∈ skeys, skeyOk Try.prog t = true := List.forall_mem_cons.2 ⟨by kernel_rfl, (fun _ h => by cases h)⟩
def known : List Nat := [1, 2, 3, 4, 5, 6, 7, 8, 9, 10, 11, 12, 13, 14, 15, 16, 17, 18, 19, 20, 21, 22, 23, 24, 25, 26, 27, 28, 30, 31, 32, 34, 35, 36, 37, 38, 39, 40, 41, 42, 43, 44, 45, 46, 47, 49, 50, 51, 53, 55, 56, 57, 58, 59, 60, 61, 62, 63, 64, 66, 67, 68, 69, 70, 72, 73, 74, 75, 76, 77, 78, 79, 80, 81, 82, 84, 85, 86, 87, 88, 89, 90, 91, 92, 93, 94, 95, 96, 97, 98, 99, 100, 102, 103, 104, 105, 106, 107, 108, 109, 110, 111, 113, 114, 115, 116, 117, 118, 119, 120, 121, 122, 123, 124, 125, 126, 127, 128, 130, 131, 132, 133, 134, 135, 136, 137, 138, 139, 140, 141, 142, 143, 144, 145, 146, 147, 148, 149, 150, 151, 153, 154, 155, 156, 157, 158, 159, 160, 161, 162, 163, 164, 165, 166, 167, 168, 169, 170, 171, 173, 174, 175, 176, 177, 178, 180, 181, 182, 183, 184, 185, 186, 188, 189, 191, 193, 194, 195, 196, 197, 198, 199, 200, 201, 202, 203, 204, 205, 206, 207, 208, 209, 210, 211, 212, 213, 214]
def tyKnown (t : Nat) : Bool := known.contains t
theorem tyOk1 : TyOk Try.prog 1 (ty 1) := ⟨by kernel_rfl, rfl, by kernel_rfl, by kernel_rfl, by kernel_rfl, trivial, rfl, rfl⟩
theorem tyOk2 : TyOk Try.prog 2 (ty 2) := ⟨by kernel_rfl, rfl, by kernel_rfl, by kernel_rfl, by kernel_rfl, (show Program.underlying Try.prog _ = _ by kernel_rfl), rfl, rfl⟩
theorem tyOk3 : TyOk Try.prog 3 (ty 3) := ⟨by kernel_rfl, rfl, by kernel_rfl, by kernel_rfl, by kernel_rfl, (show Program.underlying Try.prog _ = _ by kernel_rfl), rfl, rfl⟩
theorem tyOk4 : TyOk Try.prog 4 (ty 4) := ⟨by kernel_rfl, rfl, by kernel_rfl, by kernel_rfl, by kernel_rfl, (show Program.underlying Try.prog _ = _ by kernel_rfl), rfl, rfl⟩
theorem tyOk5 : TyOk Try.prog 5 (ty 5) := ⟨by kernel_rfl, rfl, by kernel_rfl, by kernel_rfl, by kernel_rfl, (show Program.underlying Try.prog _ = _ by kernel_rfl), rfl, rfl⟩
theorem tyOk6 : TyOk Try.prog 6 (ty 6) := ⟨by kernel_rfl, rfl, by kernel_rfl, by kernel_rfl, by kernel_rfl, (show Program.underlying Try.prog _ = _ by kernel_rfl), rfl, rfl⟩
theorem tyOk7 : TyOk Try.prog 7 (ty 7) := ⟨by kernel_rfl, rfl, by kernel_rfl, by kernel_rfl, by kernel_rfl, (show fldsOf _ _ = _ by kernel_rfl), rfl, rfl⟩
theorem tyOk8 : TyOk Try.prog 8 (ty 8) := ⟨by kernel_rfl, rfl, by kernel_rfl, by kernel_rfl, by kernel_rfl, (show fldsOf _ _ = _ by kernel_rfl), rfl, rfl⟩
theorem tyOk9 : TyOk Try.prog 9 (ty 9) := ⟨by kernel_rfl, rfl, by kernel_rfl, by kernel_rfl, by kernel_rfl, (show Program.underlying Try.prog _ = _ by kernel_rfl), rfl, rfl⟩
theorem tyOk10 : TyOk Try.prog 10 (ty 10) := ⟨by kernel_rfl, rfl, by kernel_rfl, by kernel_rfl, by kernel_rfl, (show Program.underlying Try.prog _ = _ by kernel_rfl), rfl, rfl⟩
theorem tyOk11 : TyOk Try.prog 11 (ty 11) := ⟨by kernel_rfl, rfl, by kernel_rfl, by kernel_rfl, by kernel_rfl, (show Program.underlying Try.prog _ = _ by kernel_rfl), rfl, rfl⟩
theorem tyOk12 : TyOk Try.prog 12 (ty 12) := ⟨by kernel_rfl, rfl, by kernel_rfl, by kernel_rfl, by kernel_rfl, (show Program.underlying Try.prog _ = _ by kernel_rfl), rfl, rfl⟩
theorem tyOk13 : TyOk Try.prog 13 (ty 13) := ⟨by kernel_rfl, rfl, by kernel_rfl, by kernel_rfl, by kernel_rfl, (show fldsOf _ _ = _ by kernel_rfl), rfl, rfl⟩
theorem tyOk14 : TyOk Try.prog 14 (ty 14) := ⟨by kernel_rfl, rfl, by kernel_rfl, by kernel_rfl, by kernel_rfl, (show fldsOf _ _ = _ by kernel_rfl), rfl, rfl⟩
theorem tyOk15 : TyOk Try.prog 15 (ty 15) := ⟨by kernel_rfl, rfl, by kernel_rfl, by kernel_rfl, by kernel_rfl, ⟨by kernel_rfl, rfl⟩, rfl, rfl⟩
theorem tyOk16 : TyOk Try.prog 16 (ty 16) := ⟨by kernel_rfl, rfl, by kernel_rfl, by kernel_rfl, by kernel_rfl, ⟨by kernel_rfl, rfl⟩, rfl, rfl⟩
theorem tyOk17 : TyOk Try.prog 17 (ty 17) := ⟨by kernel_rfl, rfl, by kernel_rfl, by kernel_rfl, by kernel_rfl, ⟨by kernel_rfl, rfl⟩, rfl, rfl⟩
theorem tyOk18 : TyOk Try.prog 18 (ty 18) := ⟨by kernel_rfl, rfl, by kernel_rfl, by kernel_rfl, by kernel_rfl, (show fldsOf _ _ = _ by kernel_rfl), rfl, rfl⟩
theorem tyOk19 : TyOk Try.prog 19 (ty 19) := ⟨by kernel_rfl, rfl, by kernel_rfl, by kernel_rfl, by kernel_rfl, (show fldsOf _ _ = _ by kernel_rfl), rfl, rfl⟩
theorem tyOk20 : TyOk Try.prog 20 (ty 20) := ⟨by kernel_rfl, rfl, by kernel_rfl, by kernel_rfl, by kernel_rfl, trivial, rfl, rfl⟩
theorem tyOk21 : TyOk Try.prog 21 (ty 21) := ⟨by kernel_rfl, rfl, by kernel_rfl, by kernel_rfl, by kernel_rfl, (show Program.underlying Try.prog _ = _ by kernel_rfl), rfl, rfl⟩
theorem tyOk22 : TyOk Try.prog 22 (ty 22) := ⟨by kernel_rfl, rfl, by kernel_rfl, by kernel_rfl, by kernel_rfl, (show Program.underlying Try.prog _ = _ by kernel_rfl), rfl, rfl⟩
theorem tyOk23 : TyOk Try.prog 23 (ty 23) := ⟨by kernel_rfl, rfl, by kernel_rfl, by kernel_rfl, by kernel_rfl, ⟨by kernel_rfl, rfl⟩, rfl, rfl⟩
theorem tyOk24 : TyOk Try.prog 24 (ty 24) := ⟨by kernel_rfl, rfl, by kernel_rfl, by kernel_rfl, by kernel_rfl, (show fldsOf _ _ = _ by kernel_rfl), rfl, rfl⟩
theorem tyOk25 : TyOk Try.prog 25 (ty 25) := ⟨by kernel_rfl, rfl, by kernel_rfl, by kernel_rfl, by kernel_rfl, (show fldsOf _ _ = _ by kernel_rfl), rfl, rfl⟩
theorem tyOk26 : TyOk Try.prog 26 (ty 26) := ⟨by kernel_rfl, rfl, by kernel_rfl, by kernel_rfl, by kernel_rfl, trivial, rfl, rfl⟩
theorem tyOk27 : TyOk Try.prog 27 (ty 27) := ⟨by kernel_rfl, rfl, by kernel_rfl, by kernel_rfl, by kernel_rfl, trivial, rfl, rfl⟩
theorem tyOk28 : TyOk Try.prog 28 (ty 28) := ⟨by kernel_rfl, rfl, by kernel_rfl, by kernel_rfl, by kernel_rfl, ⟨by kernel_rfl, rfl⟩, rfl, rfl⟩
theorem tyOk30 : TyOk Try.prog 30 (ty 30) := ⟨by kernel_rfl, rfl, by kernel_rfl, by kernel_rfl, by kernel_rfl, trivial, rfl, rfl⟩
theorem tyOk31 : TyOk Try.prog 31 (ty 31) := ⟨by kernel_rfl, rfl, by kernel_rfl, by kernel_rfl, by kernel_rfl, trivial, rfl, rfl⟩
theorem tyOk32 : TyOk Try.prog 32 (ty 32) := ⟨by kernel_rfl, rfl, by kernel_rfl, by kernel_rfl, by kernel_rfl, ⟨by kernel_rfl, rfl⟩, rfl, rfl⟩
theorem tyOk34 : TyOk Try.prog 34 (ty 34) := ⟨by kernel_rfl, rfl, by kernel_rfl, by kernel_rfl, by kernel_rfl, trivial, rfl, rfl⟩
theorem tyOk35 : TyOk Try.prog 35 (ty 35) := ⟨by kernel_rfl, rfl, by kernel_rfl, by kernel_rfl, by kernel_rfl, trivial, rfl, rfl⟩
theorem tyOk36 : TyOk Try.prog 36 (ty 36) := ⟨by kernel_rfl, rfl, by kernel_rfl, by kernel_rfl, by kernel_rfl, (show fldsOf _ _ = _ by kernel_rfl), rfl, rfl⟩
theorem tyOk37 : TyOk Try.prog 37 (ty 37) := ⟨by kernel_rfl, rfl, by kernel_rfl, by kernel_rfl, by kernel_rfl, (show fldsOf _ _ = _ by kernel_rfl), rfl, rfl⟩
theorem tyOk38 : TyOk Try.prog 38 (ty 38) := ⟨by kernel_rfl, rfl, by kernel_rfl, by kernel_rfl, by kernel_rfl, (show fldsOf _ _ = _ by kernel_rfl), rfl, rfl⟩
theorem tyOk39 : TyOk Try.prog 39 (ty 39) := ⟨by kernel_rfl, rfl, by kernel_rfl, by kernel_rfl, by kernel_rfl, trivial, rfl, rfl⟩
theorem tyOk40 : TyOk Try.prog 40 (ty 40) := ⟨by kernel_rfl, rfl, by kernel_rfl, by kernel_rfl, by kernel_rfl, trivial, rfl, rfl⟩
theorem tyOk41 : TyOk Try.prog 41 (ty 41) := ⟨by kernel_rfl, rfl, by kernel_rfl, by kernel_rfl, by kernel_rfl, trivial, rfl, rfl⟩
theorem tyOk42 : TyOk Try.prog 42 (ty 42) := ⟨by kernel_rfl, rfl, by kernel_rfl, by kernel_rfl, by kernel_rfl, trivial, rfl, rfl⟩
theorem tyOk43 : TyOk Try.prog 43 (ty 43) := ⟨by kernel_rfl, rfl, by kernel_rfl, by kernel_rfl, by kernel_rfl, trivial, rfl, rfl⟩
theorem tyOk44 : TyOk Try.prog 44 (ty 44) := ⟨by kernel_rfl, rfl, by kernel_rfl, by kernel_rfl, by kernel_rfl, ⟨by kernel_rfl, rfl⟩, rfl, rfl⟩
theorem tyOk45 : TyOk Try.prog 45 (ty 45) := ⟨by kernel_rfl, rfl, by kernel_rfl, by kernel_rfl, by kernel_rfl, trivial, rfl, rfl⟩
theorem tyOk46 : TyOk Try.prog 46 (ty 46) := ⟨by kernel_rfl, rfl, by kernel_rfl, by kernel_rfl, by kernel_rfl, (show Program.underlying Try.prog _ = _ by kernel_rfl), rfl, rfl⟩
theorem tyOk47 : TyOk Try.prog 47 (ty 47) := ⟨by kernel_rfl, rfl, by kernel_rfl, by kernel_rfl, by kernel_rfl, (show Program.underlying Try.prog _ = _ by kernel_rfl), rfl, rfl⟩
theorem tyOk49 : TyOk Try.prog 49 (ty 49) := ⟨by kernel_rfl, rfl, by kernel_rfl, by kernel_rfl, by kernel_rfl, trivial, rfl, rfl⟩
theorem tyOk50 : TyOk Try.prog 50 (ty 50) := ⟨by kernel_rfl, rfl, by kernel_rfl, by kernel_rfl, by kernel_rfl, ⟨by kernel_rfl, rfl⟩, rfl, rfl⟩
theorem tyOk51 : TyOk Try.prog 51 (ty 51) := ⟨by kernel_rfl, rfl, by kernel_rfl, by kernel_rfl, by kernel_rfl, trivial, rfl, rfl⟩
theorem tyOk53 : TyOk Try.prog 53 (ty 53) := ⟨by kernel_rfl, rfl, by kernel_rfl, by kernel_rfl, by kernel_rfl, trivial, rfl, rfl⟩
theorem tyOk55 : TyOk Try.prog 55 (ty 55) := ⟨by kernel_rfl, rfl, by kernel_rfl, by kernel_rfl, by kernel_rfl, trivial, rfl, rfl⟩
theorem tyOk56 : TyOk Try.prog 56 (ty 56) := ⟨by kernel_rfl, rfl, by kernel_rfl, by kernel_rfl, by kernel_rfl, ⟨by kernel_rfl, rfl⟩, rfl, rfl⟩
theorem tyOk57 : TyOk Try.prog 57 (ty 57) := ⟨by kernel_rfl, rfl, by kernel_rfl, by kernel_rfl, by kernel_rfl, ⟨by kernel_rfl, rfl⟩, rfl, rfl⟩
theorem tyOk58 : TyOk Try.prog 58 (ty 58) := ⟨by kernel_rfl, rfl, by kernel_rfl, by kernel_rfl, by kernel_rfl, (show fldsOf _ _ = _ by kernel_rfl), rfl, rfl⟩
theorem tyOk59 : TyOk Try.prog 59 (ty 59) := ⟨by kernel_rfl, rfl, by kernel_rfl, by kernel_rfl, by kernel_rfl, (show fldsOf _ _ = _ by kernel_rfl), rfl, rfl⟩
theorem tyOk60 : TyOk Try.prog 60 (ty 60) := ⟨by kernel_rfl, rfl, by kernel_rfl, by kernel_rfl, by kernel_rfl, ⟨by kernel_rfl, rfl⟩, rfl, rfl⟩
theorem tyOk61 : TyOk Try.prog 61 (ty 61) := ⟨by kernel_rfl, rfl, by kernel_rfl, by kernel_rfl, by kernel_rfl, trivial, rfl, rfl⟩
theorem tyOk62 : TyOk Try.prog 62 (ty 62) := ⟨by kernel_rfl, rfl, by kernel_rfl, by kernel_rfl, by kernel_rfl, trivial, rfl, rfl⟩
theorem tyOk63 : TyOk Try.prog 63 (ty 63) := ⟨by kernel_rfl, rfl, by kernel_rfl, by kernel_rfl, by kernel_rfl, trivial, rfl, rfl⟩
theorem tyOk64 : TyOk Try.prog 64 (ty 64) := ⟨by kernel_rfl, rfl, by kernel_rfl, by kernel_rfl, by kernel_rfl, ⟨by kernel_rfl, rfl⟩, rfl, rfl⟩
theorem tyOk66 : TyOk Try.prog 66 (ty 66) := ⟨by kernel_rfl, rfl, by kernel_rfl, by kernel_rfl, by kernel_rfl, trivial, rfl, rfl⟩
theorem tyOk67 : TyOk Try.prog 67 (ty 67) := ⟨by kernel_rfl, rfl, by kernel_rfl, by kernel_rfl, by kernel_rfl, trivial, rfl, rfl⟩
theorem tyOk68 : TyOk Try.prog 68 (ty 68) := ⟨by kernel_rfl, rfl, by kernel_rfl, by kernel_rfl, by kernel_rfl, trivial, rfl, rfl⟩
theorem tyOk69 : TyOk Try.prog 69 (ty 69) := ⟨by kernel_rfl, rfl, by kernel_rfl, by kernel_rfl, by kernel_rfl, trivial, rfl, rfl⟩
theorem tyOk70 : TyOk Try.prog 70 (ty 70) := ⟨by kernel_rfl, rfl, by kernel_rfl, by kernel_rfl, by kernel_rfl, trivial, rfl, rfl⟩
theorem tyOk72 : TyOk Try.prog 72 (ty 72) := ⟨by kernel_rfl, rfl, by kernel_rfl, by kernel_rfl, by kernel_rfl, trivial, rfl, rfl⟩
theorem tyOk73 : TyOk Try.prog 73 (ty 73) := ⟨by kernel_rfl, rfl, by kernel_rfl, by kernel_rfl, by kernel_rfl, trivial, rfl, rfl⟩
theorem tyOk74 : TyOk Try.prog 74 (ty 74) := ⟨by kernel_rfl, rfl, by kernel_rfl, by kernel_rfl, by kernel_rfl, trivial, rfl, rfl⟩
theorem tyOk75 : TyOk Try.prog 75 (ty 75) := ⟨by kernel_rfl, rfl, by kernel_rfl, by kernel_rfl, by kernel_rfl, trivial, rfl, rfl⟩
theorem tyOk76 : TyOk Try.prog 76 (ty 76) := ⟨by kernel_rfl, rfl, by kernel_rfl, by kernel_rfl, by kernel_rfl, trivial, rfl, rfl⟩
theorem tyOk77 : TyOk Try.prog 77 (ty 77) := ⟨by kernel_rfl, rfl, by kernel_rfl, by kernel_rfl, by kernel_rfl, ⟨by kernel_rfl, rfl, rfl⟩, rfl, rfl⟩
theorem tyOk78 : TyOk Try.prog 78 (ty 78) := ⟨by kernel_rfl, rfl, by kernel_rfl, by kernel_rfl, by kernel_rfl, (show fldsOf _ _ = _ by kernel_rfl), rfl, rfl⟩
theorem tyOk79 : TyOk Try.prog 79 (ty 79) := ⟨by kernel_rfl, rfl, by kernel_rfl, by kernel_rfl, by kernel_rfl, (show fldsOf _ _ = _ by kernel_rfl), rfl, rfl⟩
theorem tyOk80 : TyOk Try.prog 80 (ty 80) := ⟨by kernel_rfl, rfl, by kernel_rfl, by kernel_rfl, by kernel_rfl, trivial, rfl, rfl⟩
theorem tyOk81 : TyOk Try.prog 81 (ty 81) := ⟨by kernel_rfl, rfl, by kernel_rfl, by kernel_rfl, by kernel_rfl, trivial, rfl, rfl⟩
theorem tyOk82 : TyOk Try.prog 82 (ty 82) := ⟨by kernel_rfl, rfl, by kernel_rfl, by kernel_rfl, by kernel_rfl, ⟨by kernel_rfl, rfl⟩, rfl, rfl⟩
theorem tyOk84 : TyOk Try.prog 84 (ty 84) := ⟨by kernel_rfl, rfl, by kernel_rfl, by kernel_rfl, by kernel_rfl, trivial, rfl, rfl⟩
theorem tyOk85 : TyOk Try.prog 85 (ty 85) := ⟨by kernel_rfl, rfl, by kernel_rfl, by kernel_rfl, by kernel_rfl, (show fldsOf _ _ = _ by kernel_rfl), rfl, rfl⟩
theorem tyOk86 : TyOk Try.prog 86 (ty 86) := ⟨by kernel_rfl, rfl, by kernel_rfl, by kernel_rfl, by kernel_rfl, (show fldsOf _ _ = _ by kernel_rfl), rfl, rfl⟩
theorem tyOk87 : TyOk Try.prog 87 (ty 87) := ⟨by kernel_rfl, rfl, by kernel_rfl, by kernel_rfl, by kernel_rfl, trivial, rfl, rfl⟩
theorem tyOk88 : TyOk Try.prog 88 (ty 88) := ⟨by kernel_rfl, rfl, by kernel_rfl, by kernel_rfl, by kernel_rfl, ⟨by kernel_rfl, rfl, rfl⟩, rfl, rfl⟩
theorem tyOk89 : TyOk Try.prog 89 (ty 89) := ⟨by kernel_rfl, rfl, by kernel_rfl, by kernel_rfl, by kernel_rfl, ⟨by kernel_rfl, rfl, rfl⟩, rfl, rfl⟩
theorem tyOk90 : TyOk Try.prog 90 (ty 90) := ⟨by kernel_rfl, rfl, by kernel_rfl, by kernel_rfl, by kernel_rfl, ⟨by kernel_rfl, rfl⟩, rfl, rfl⟩
theorem tyOk91 : TyOk Try.prog 91 (ty 91) := ⟨by kernel_rfl, rfl, by kernel_rfl, by kernel_rfl, by kernel_rfl, (show fldsOf _ _ = _ by kernel_rfl), rfl, rfl⟩
theorem tyOk92 : TyOk Try.prog 92 (ty 92) := ⟨by kernel_rfl, rfl, by kernel_rfl, by kernel_rfl, by kernel_rfl, (show fldsOf _ _ = _ by kernel_rfl), rfl, rfl⟩
theorem tyOk93 : TyOk Try.prog 93 (ty 93) := ⟨by kernel_rfl, rfl, by kernel_rfl, by kernel_rfl, by kernel_rfl, trivial, rfl, rfl⟩
theorem tyOk94 : TyOk Try.prog 94 (ty 94) := ⟨by kernel_rfl, rfl, by kernel_rfl, by kernel_rfl, by kernel_rfl, trivial, rfl, rfl⟩
theorem tyOk95 : TyOk Try.prog 95 (ty 95) := ⟨by kernel_rfl, rfl, by kernel_rfl, by kernel_rfl, by kernel_rfl, trivial, rfl, rfl⟩
theorem tyOk96 : TyOk Try.prog 96 (ty 96) := ⟨by kernel_rfl, rfl, by kernel_rfl, by kernel_rfl, by kernel_rfl, trivial, rfl, rfl⟩
theorem tyOk97 : TyOk Try.prog 97 (ty 97) := ⟨by kernel_rfl, rfl, by kernel_rfl, by kernel_rfl, by kernel_rfl, trivial, rfl, rfl⟩
theorem tyOk98 : TyOk Try.prog 98 (ty 98) := ⟨by kernel_rfl, rfl, by kernel_rfl, by kernel_rfl, by kernel_rfl, (show fldsOf _ _ = _ by kernel_rfl), rfl, rfl⟩
theorem tyOk99 : TyOk Try.prog 99 (ty 99) := ⟨by kernel_rfl, rfl, by kernel_rfl, by kernel_rfl, by kernel_rfl, (show fldsOf _ _ = _ by kernel_rfl), rfl, rfl⟩
theorem tyOk100 : TyOk Try.prog 100 (ty 100) := ⟨by kernel_rfl, rfl, by kernel_rfl, by kernel_rfl, by kernel_rfl, ⟨by kernel_rfl, rfl⟩, rfl, rfl⟩
theorem tyOk102 : TyOk Try.prog 102 (ty 102) := ⟨by kernel_rfl, rfl, by kernel_rfl, by kernel_rfl, by kernel_rfl, trivial, rfl, rfl⟩
theorem tyOk103 : TyOk Try.prog 103 (ty 103) := ⟨by kernel_rfl, rfl, by kernel_rfl, by kernel_rfl, by kernel_rfl, trivial, rfl, rfl⟩
theorem tyOk104 : TyOk Try.prog 104 (ty 104) := ⟨by kernel_rfl, rfl, by kernel_rfl, by kernel_rfl, by kernel_rfl, (show fldsOf _ _ = _ by kernel_rfl), rfl, rfl⟩
theorem tyOk105 : TyOk Try.prog 105 (ty 105) := ⟨by kernel_rfl, rfl, by kernel_rfl, by kernel_rfl, by kernel_rfl, (show fldsOf _ _ = _ by kernel_rfl), rfl, rfl⟩
theorem tyOk106 : TyOk Try.prog 106 (ty 106) := ⟨by kernel_rfl, rfl, by kernel_rfl, by kernel_rfl, by kernel_rfl, trivial, rfl, rfl⟩
theorem tyOk107 : TyOk Try.prog 107 (ty 107) := ⟨by kernel_rfl, rfl, by kernel_rfl, by kernel_rfl, by kernel_rfl, (show fldsOf _ _ = _ by kernel_rfl), rfl, rfl⟩
theorem tyOk108 : TyOk Try.prog 108 (ty 108) := ⟨by kernel_rfl, rfl, by kernel_rfl, by kernel_rfl, by kernel_rfl, (show fldsOf _ _ = _ by kernel_rfl), rfl, rfl⟩
theorem tyOk109 : TyOk Try.prog 109 (ty 109) := ⟨by kernel_rfl, rfl, by kernel_rfl, by kernel_rfl, by kernel_rfl, ⟨by kernel_rfl, rfl⟩, rfl, rfl⟩
theorem tyOk110 : TyOk Try.prog 110 (ty 110) := ⟨by kernel_rfl, rfl, by kernel_rfl, by kernel_rfl, by kernel_rfl, trivial, rfl, rfl⟩
theorem tyOk111 : TyOk Try.prog 111 (ty 111) := ⟨by kernel_rfl, rfl, by kernel_rfl, by kernel_rfl, by kernel_rfl, trivial, rfl, rfl⟩
theorem tyOk113 : TyOk Try.prog 113 (ty 113) := ⟨by kernel_rfl, rfl, by kernel_rfl, by kernel_rfl, by kernel_rfl, trivial, rfl, rfl⟩
theorem tyOk114 : TyOk Try.prog 114 (ty 114) := ⟨by kernel_rfl, rfl, by kernel_rfl, by kernel_rfl, by kernel_rfl, (show fldsOf _ _ = _ by kernel_rfl), rfl, rfl⟩
theorem tyOk115 : TyOk Try.prog 115 (ty 115) := ⟨by kernel_rfl, rfl, by kernel_rfl, by kernel_rfl, by kernel_rfl, (show fldsOf _ _ = _ by kernel_rfl), rfl, rfl⟩
theorem tyOk116 : TyOk Try.prog 116 (ty 116) := ⟨by kernel_rfl, rfl, by kernel_rfl, by kernel_rfl, by kernel_rfl, trivial, rfl, rfl⟩
theorem tyOk117 : TyOk Try.prog 117 (ty 117) := ⟨by kernel_rfl, rfl, by kernel_rfl, by kernel_rfl, by kernel_rfl, trivial, rfl, rfl⟩
theorem tyOk118 : TyOk Try.prog 118 (ty 118) := ⟨by kernel_rfl, rfl, by kernel_rfl, by kernel_rfl, by kernel_rfl, trivial, rfl, rfl⟩
theorem tyOk119 : TyOk Try.prog 119 (ty 119) := ⟨by kernel_rfl, rfl, by kernel_rfl, by kernel_rfl, by kernel_rfl, trivial, rfl, rfl⟩
theorem tyOk120 : TyOk Try.prog 120 (ty 120) := ⟨by kernel_rfl, rfl, by kernel_rfl, by kernel_rfl, by kernel_rfl, trivial, rfl, rfl⟩
theorem tyOk121 : TyOk Try.prog 121 (ty 121) := ⟨by kernel_rfl, rfl, by kernel_rfl, by kernel_rfl, by kernel_rfl, ⟨by kernel_rfl, rfl, rfl⟩, rfl, rfl⟩
theorem tyOk122 : TyOk Try.prog 122 (ty 122) := ⟨by kernel_rfl, rfl, by kernel_rfl, by kernel_rfl, by kernel_rfl, trivial, rfl, rfl⟩
theorem tyOk123 : TyOk Try.prog 123 (ty 123) := ⟨by kernel_rfl, rfl, by kernel_rfl, by kernel_rfl, by kernel_rfl, trivial, rfl, rfl⟩
theorem tyOk124 : TyOk Try.prog 124 (ty 124) := ⟨by kernel_rfl, rfl, by kernel_rfl, by kernel_rfl, by kernel_rfl, trivial, rfl, rfl⟩
theorem tyOk125 : TyOk Try.prog 125 (ty 125) := ⟨by kernel_rfl, rfl, by kernel_rfl, by kernel_rfl, by kernel_rfl, trivial, rfl, rfl⟩
theorem tyOk126 : TyOk Try.prog 126 (ty 126) := ⟨by kernel_rfl, rfl, by kernel_rfl, by kernel_rfl, by kernel_rfl, trivial, rfl, rfl⟩
theorem tyOk127 : TyOk Try.prog 127 (ty 127) := ⟨by kernel_rfl, rfl, by kernel_rfl, by kernel_rfl, by kernel_rfl, trivial, rfl, rfl⟩
theorem tyOk128 : TyOk Try.prog 128 (ty 128) := ⟨by kernel_rfl, rfl, by kernel_rfl, by kernel_rfl, by kernel_rfl, ⟨by kernel_rfl, rfl⟩, rfl, rfl⟩
theorem tyOk130 : TyOk Try.prog 130 (ty 130) := ⟨by kernel_rfl, rfl, by kernel_rfl, by kernel_rfl, by kernel_rfl, trivial, rfl, rfl⟩
theorem tyOk131 : TyOk Try.prog 131 (ty 131) := ⟨by kernel_rfl, rfl, by kernel_rfl, by kernel_rfl, by kernel_rfl, (show fldsOf _ _ = _ by kernel_rfl), rfl, rfl⟩
theorem tyOk132 : TyOk Try.prog 132 (ty 132) := ⟨by kernel_rfl, rfl, by kernel_rfl, by kernel_rfl, by kernel_rfl, (show fldsOf _ _ = _ by kernel_rfl), rfl, rfl⟩
theorem tyOk133 : TyOk Try.prog 133 (ty 133) := ⟨by kernel_rfl, rfl, by kernel_rfl, by kernel_rfl, by kernel_rfl, trivial, rfl, rfl⟩
theorem tyOk134 : TyOk Try.prog 134 (ty 134) := ⟨by kernel_rfl, rfl, by kernel_rfl, by kernel_rfl, by kernel_rfl, trivial, rfl, rfl⟩
theorem tyOk135 : TyOk Try.prog 135 (ty 135) := ⟨by kernel_rfl, rfl, by kernel_rfl, by kernel_rfl, by kernel_rfl, trivial, rfl, rfl⟩
theorem tyOk136 : TyOk Try.prog 136 (ty 136) := ⟨by kernel_rfl, rfl, by kernel_rfl, by kernel_rfl, by kernel_rfl, trivial, rfl, rfl⟩
theorem tyOk137 : TyOk Try.prog 137 (ty 137) := ⟨by kernel_rfl, rfl, by kernel_rfl, by kernel_rfl, by kernel_rfl, trivial, rfl, rfl⟩
theorem tyOk138 : TyOk Try.prog 138 (ty 138) := ⟨by kernel_rfl, rfl, by kernel_rfl, by kernel_rfl, by kernel_rfl, trivial, rfl, rfl⟩
theorem tyOk139 : TyOk Try.prog 139 (ty 139) := ⟨by kernel_rfl, rfl, by kernel_rfl, by kernel_rfl, by kernel_rfl, ⟨by kernel_rfl, rfl, rfl⟩, rfl, rfl⟩
theorem tyOk140 : TyOk Try.prog 140 (ty 140) := ⟨by kernel_rfl, rfl, by kernel_rfl, by kernel_rfl, by kernel_rfl, ⟨by kernel_rfl, rfl, rfl⟩, rfl, rfl⟩
theorem tyOk141 : TyOk Try.prog 141 (ty 141) := ⟨by kernel_rfl, rfl, by kernel_rfl, by kernel_rfl, by kernel_rfl, trivial, rfl, rfl⟩
theorem tyOk142 : TyOk Try.prog 142 (ty 142) := ⟨by kernel_rfl, rfl, by kernel_rfl, by kernel_rfl, by kernel_rfl, trivial, rfl, rfl⟩
theorem tyOk143 : TyOk Try.prog 143 (ty 143) := ⟨by kernel_rfl, rfl, by kernel_rfl, by kernel_rfl, by kernel_rfl, trivial, rfl, rfl⟩
theorem tyOk144 : TyOk Try.prog 144 (ty 144) := ⟨by kernel_rfl, rfl, by kernel_rfl, by kernel_rfl, by kernel_rfl, trivial, rfl, rfl⟩
theorem tyOk145 : TyOk Try.prog 145 (ty 145) := ⟨by kernel_rfl, rfl, by kernel_rfl, by kernel_rfl, by kernel_rfl, trivial, rfl, rfl⟩
theorem tyOk146 : TyOk Try.prog 146 (ty 146) := ⟨by kernel_rfl, rfl, by kernel_rfl, by kernel_rfl, by kernel_rfl, trivial, rfl, rfl⟩
theorem tyOk147 : TyOk Try.prog 147 (ty 147) := ⟨by kernel_rfl, rfl, by kernel_rfl, by kernel_rfl, by kernel_rfl, trivial, rfl, rfl⟩
theorem tyOk148 : TyOk Try.prog 148 (ty 148) := ⟨by kernel_rfl, rfl, by kernel_rfl, by kernel_rfl, by kernel_rfl, trivial, rfl, rfl⟩
theorem tyOk149 : TyOk Try.prog 149 (ty 149) := ⟨by kernel_rfl, rfl, by kernel_rfl, by kernel_rfl, by kernel_rfl, trivial, rfl, rfl⟩
theorem tyOk150 : TyOk Try.prog 150 (ty 150) := ⟨by kernel_rfl, rfl, by kernel_rfl, by kernel_rfl, by kernel_rfl, trivial, rfl, rfl⟩
theorem tyOk151 : TyOk Try.prog 151 (ty 151) := ⟨by kernel_rfl, rfl, by kernel_rfl, by kernel_rfl, by kernel_rfl, trivial, rfl, rfl⟩
theorem tyOk153 : TyOk Try.prog 153 (ty 153) := ⟨by kernel_rfl, rfl, by kernel_rfl, by kernel_rfl, by kernel_rfl, trivial, rfl, rfl⟩
theorem tyOk154 : TyOk Try.prog 154 (ty 154) := ⟨by kernel_rfl, rfl, by kernel_rfl, by kernel_rfl, by kernel_rfl, trivial, rfl, rfl⟩
theorem tyOk155 : TyOk Try.prog 155 (ty 155) := ⟨by kernel_rfl, rfl, by kernel_rfl, by kernel_rfl, by kernel_rfl, trivial, rfl, rfl⟩
theorem tyOk156 : TyOk Try.prog 156 (ty 156) := ⟨by kernel_rfl, rfl, by kernel_rfl, by kernel_rfl, by kernel_rfl, trivial, rfl, rfl⟩
theorem tyOk157 : TyOk Try.prog 157 (ty 157) := ⟨by kernel_rfl, rfl, by kernel_rfl, by kernel_rfl, by kernel_rfl, trivial, rfl, rfl⟩
theorem tyOk158 : TyOk Try.prog 158 (ty 158) := ⟨by kernel_rfl, rfl, by kernel_rfl, by kernel_rfl, by kernel_rfl, trivial, rfl, rfl⟩
theorem tyOk159 : TyOk Try.prog 159 (ty 159) := ⟨by kernel_rfl, rfl, by kernel_rfl, by kernel_rfl, by kernel_rfl, trivial, rfl, rfl⟩
theorem tyOk160 : TyOk Try.prog 160 (ty 160) := ⟨by kernel_rfl, rfl, by kernel_rfl, by kernel_rfl, by kernel_rfl, trivial, rfl, rfl⟩
theorem tyOk161 : TyOk Try.prog 161 (ty 161) := ⟨by kernel_rfl, rfl, by kernel_rfl, by kernel_rfl, by kernel_rfl, trivial, rfl, rfl⟩
theorem tyOk162 : TyOk Try.prog 162 (ty 162) := ⟨by kernel_rfl, rfl, by kernel_rfl, by kernel_rfl, by kernel_rfl, trivial, rfl, rfl⟩
theorem tyOk163 : TyOk Try.prog 163 (ty 163) := ⟨by kernel_rfl, rfl, by kernel_rfl, by kernel_rfl, by kernel_rfl, ⟨by kernel_rfl, rfl, rfl⟩, rfl, rfl⟩
theorem tyOk164 : TyOk Try.prog 164 (ty 164) := ⟨by kernel_rfl, rfl, by kernel_rfl, by kernel_rfl, by kernel_rfl, ⟨by kernel_rfl, rfl⟩, rfl, rfl⟩
theorem tyOk165 : TyOk Try.prog 165 (ty 165) := ⟨by kernel_rfl, rfl, by kernel_rfl, by kernel_rfl, by kernel_rfl, trivial, rfl, rfl⟩
theorem tyOk166 : TyOk Try.prog 166 (ty 166) := ⟨by kernel_rfl, rfl, by kernel_rfl, by kernel_rfl, by kernel_rfl, ⟨by kernel_rfl, rfl⟩, rfl, rfl⟩
theorem tyOk167 : TyOk Try.prog 167 (ty 167) := ⟨by kernel_rfl, rfl, by kernel_rfl, by kernel_rfl, by kernel_rfl, trivial, rfl, rfl⟩
theorem tyOk168 : TyOk Try.prog 168 (ty 168) := ⟨by kernel_rfl, rfl, by kernel_rfl, by kernel_rfl, by kernel_rfl, trivial, rfl, rfl⟩
theorem tyOk169 : TyOk Try.prog 169 (ty 169) := ⟨by kernel_rfl, rfl, by kernel_rfl, by kernel_rfl, by kernel_rfl, trivial, rfl, rfl⟩
theorem tyOk170 : TyOk Try.prog 170 (ty 170) := ⟨by kernel_rfl, rfl, by kernel_rfl, by kernel_rfl, by kernel_rfl, (show fldsOf _ _ = _ by kernel_rfl), rfl, rfl⟩
theorem tyOk171 : TyOk Try.prog 171 (ty 171) := ⟨by kernel_rfl, rfl, by kernel_rfl, by kernel_rfl, by kernel_rfl, (show fldsOf _ _ = _ by kernel_rfl), rfl, rfl⟩
theorem tyOk173 : TyOk Try.prog 173 (ty 173) := ⟨by kernel_rfl, rfl, by kernel_rfl, by kernel_rfl, by kernel_rfl, trivial, rfl, rfl⟩
theorem tyOk174 : TyOk Try.prog 174 (ty 174) := ⟨by kernel_rfl, rfl, by kernel_rfl, by kernel_rfl, by kernel_rfl, trivial, rfl, rfl⟩
theorem tyOk175 : TyOk Try.prog 175 (ty 175) := ⟨by kernel_rfl, rfl, by kernel_rfl, by kernel_rfl, by kernel_rfl, trivial, rfl, rfl⟩
theorem tyOk176 : TyOk Try.prog 176 (ty 176) := ⟨by kernel_rfl, rfl, by kernel_rfl, by kernel_rfl, by kernel_rfl, trivial, rfl, rfl⟩
theorem tyOk177 : TyOk Try.prog 177 (ty 177) := ⟨by kernel_rfl, rfl, by kernel_rfl, by kernel_rfl, by kernel_rfl, trivial, rfl, rfl⟩
theorem tyOk178 : TyOk Try.prog 178 (ty 178) := ⟨by kernel_rfl, rfl, by kernel_rfl, by kernel_rfl, by kernel_rfl, ⟨by kernel_rfl, rfl⟩, rfl, rfl⟩
theorem tyOk180 : TyOk Try.prog 180 (ty 180) := ⟨by kernel_rfl, rfl, by kernel_rfl, by kernel_rfl, by kernel_rfl, trivial, rfl, rfl⟩
theorem tyOk181 : TyOk Try.prog 181 (ty 181) := ⟨by kernel_rfl, rfl, by kernel_rfl, by kernel_rfl, by kernel_rfl, trivial, rfl, rfl⟩
theorem tyOk182 : TyOk Try.prog 182 (ty 182) := ⟨by kernel_rfl, rfl, by kernel_rfl, by kernel_rfl, by kernel_rfl, trivial, rfl, rfl⟩
theorem tyOk183 : TyOk Try.prog 183 (ty 183) := ⟨by kernel_rfl, rfl, by kernel_rfl, by kernel_rfl, by kernel_rfl, trivial, rfl, rfl⟩
theorem tyOk184 : TyOk Try.prog 184 (ty 184) := ⟨by kernel_rfl, rfl, by kernel_rfl, by kernel_rfl, by kernel_rfl, trivial, rfl, rfl⟩
theorem tyOk185 : TyOk Try.prog 185 (ty 185) := ⟨by kernel_rfl, rfl, by kernel_rfl, by kernel_rfl, by kernel_rfl, trivial, rfl, rfl⟩
theorem tyOk186 : TyOk Try.prog 186 (ty 186) := ⟨by kernel_rfl, rfl, by kernel_rfl, by kernel_rfl, by kernel_rfl, trivial, rfl, rfl⟩
theorem tyOk188 : TyOk Try.prog 188 (ty 188) := ⟨by kernel_rfl, rfl, by kernel_rfl, by kernel_rfl, by kernel_rfl, trivial, rfl, rfl⟩
theorem tyOk189 : TyOk Try.prog 189 (ty 189) := ⟨by kernel_rfl, rfl, by kernel_rfl, by kernel_rfl, by kernel_rfl, trivial, rfl, rfl⟩
theorem tyOk191 : TyOk Try.prog 191 (ty 191) := ⟨by kernel_rfl, rfl, by kernel_rfl, by kernel_rfl, by kernel_rfl, trivial, rfl, rfl⟩
theorem tyOk193 : TyOk Try.prog 193 (ty 193) := ⟨by kernel_rfl, rfl, by kernel_rfl, by kernel_rfl, by kernel_rfl, trivial, rfl, rfl⟩
theorem tyOk194 : TyOk Try.prog 194 (ty 194) := ⟨by kernel_rfl, rfl, by kernel_rfl, by kernel_rfl, by kernel_rfl, trivial, rfl, rfl⟩
theorem tyOk195 : TyOk Try.prog 195 (ty 195) := ⟨by kernel_rfl, rfl, by kernel_rfl, by kernel_rfl, by kernel_rfl, trivial, rfl, rfl⟩
theorem tyOk196 : TyOk Try.prog 196 (ty 196) := ⟨by kernel_rfl, rfl, by kernel_rfl, by kernel_rfl, by kernel_rfl, (show Program.underlying Try.prog _ = _ by kernel_rfl), rfl, rfl⟩
theorem tyOk197 : TyOk Try.prog 197 (ty 197) := ⟨by kernel_rfl, rfl, by kernel_rfl, by kernel_rfl, by kernel_rfl, trivial, rfl, rfl⟩
theorem tyOk198 : TyOk Try.prog 198 (ty 198) := ⟨by kernel_rfl, rfl, by kernel_rfl, by kernel_rfl, by kernel_rfl, trivial, rfl, rfl⟩
theorem tyOk199 : TyOk Try.prog 199 (ty 199) := ⟨by kernel_rfl, rfl, by kernel_rfl, by kernel_rfl, by kernel_rfl, (show fldsOf _ _ = _ by kernel_rfl), rfl, rfl⟩
theorem tyOk200 : TyOk Try.prog 200 (ty 200) := ⟨by kernel_rfl, rfl, by kernel_rfl, by kernel_rfl, by kernel_rfl, (show fldsOf _ _ = _ by kernel_rfl), rfl, rfl⟩
theorem tyOk201 : TyOk Try.prog 201 (ty 201) := ⟨by kernel_rfl, rfl, by kernel_rfl, by kernel_rfl, by kernel_rfl, ⟨by kernel_rfl, rfl⟩, rfl, rfl⟩
theorem tyOk202 : TyOk Try.prog 202 (ty 202) := ⟨by kernel_rfl, rfl, by kernel_rfl, by kernel_rfl, by kernel_rfl, (show fldsOf _ _ = _ by kernel_rfl), rfl, rfl⟩
theorem tyOk203 : TyOk Try.prog 203 (ty 203) := ⟨by kernel_rfl, rfl, by kernel_rfl, by kernel_rfl, by kernel_rfl, (show fldsOf _ _ = _ by kernel_rfl), rfl, rfl⟩
theorem tyOk204 : TyOk Try.prog 204 (ty 204) := ⟨by kernel_rfl, rfl, by kernel_rfl, by kernel_rfl, by kernel_rfl, trivial, rfl, rfl⟩
theorem tyOk205 : TyOk Try.prog 205 (ty 205) := ⟨by kernel_rfl, rfl, by kernel_rfl, by kernel_rfl, by kernel_rfl, (show Program.underlying Try.prog _ = _ by kernel_rfl), rfl, rfl⟩
theorem tyOk206 : TyOk Try.prog 206 (ty 206) := ⟨by kernel_rfl, rfl, by kernel_rfl, by kernel_rfl, by kernel_rfl, (show Program.underlying Try.prog _ = _ by kernel_rfl), rfl, rfl⟩
theorem tyOk207 : TyOk Try.prog 207 (ty 207) := ⟨by kernel_rfl, rfl, by kernel_rfl, by kernel_rfl, by kernel_rfl, (show Program.underlying Try.prog _ = _ by kernel_rfl), rfl, rfl⟩
theorem tyOk208 : TyOk Try.prog 208 (ty 208) := ⟨by kernel_rfl, rfl, by kernel_rfl, by kernel_rfl, by kernel_rfl, trivial, rfl, rfl⟩
theorem tyOk209 : TyOk Try.prog 209 (ty 209) := ⟨by kernel_rfl, rfl, by kernel_rfl, by kernel_rfl, by kernel_rfl, ⟨by kernel_rfl, rfl⟩, rfl, rfl⟩
theorem tyOk210 : TyOk Try.prog 210 (ty 210) := ⟨by kernel_rfl, rfl, by kernel_rfl, by kernel_rfl, by kernel_rfl, (show Program.underlying Try.prog _ = _ by kernel_rfl), rfl, rfl⟩
theorem tyOk211 : TyOk Try.prog 211 (ty 211) := ⟨by kernel_rfl, rfl, by kernel_rfl, by kernel_rfl, by kernel_rfl, (show Program.underlying Try.prog _ = _ by kernel_rfl), rfl, rfl⟩
theorem tyOk212 : TyOk Try.prog 212 (ty 212) := ⟨by kernel_rfl, rfl, by kernel_rfl, by kernel_rfl, by kernel_rfl, (show fldsOf _ _ = _ by kernel_rfl), rfl, rfl⟩
theorem tyOk213 : TyOk Try.prog 213 (ty 213) := ⟨by kernel_rfl, rfl, by kernel_rfl, by kernel_rfl, by kernel_rfl, (show fldsOf _ _ = _ by kernel_rfl), rfl, rfl⟩
theorem tyOk214 : TyOk Try.prog 214 (ty 214) := ⟨by kernel_rfl, rfl, by kernel_rfl, by kernel_rfl, by kernel_rfl, trivial, rfl, rfl⟩
set_option maxRecDepth 100000 in
theorem tyOkL : ∀ t ∈ known, TyOk Try.prog t (ty t) :=
  List.forall_mem_cons.2 ⟨tyOk1, List.forall_mem_cons.2 ⟨tyOk2, List.forall_mem_cons.2 ⟨tyOk3, List.forall_mem_cons.2 ⟨tyOk4, List.forall_mem_cons.2 ⟨tyOk5, List.forall_mem_cons.2 ⟨tyOk6, List.forall_mem_cons.2 ⟨tyOk7, List.forall_mem_cons.2 ⟨tyOk8, List.forall_mem_cons.2 ⟨tyOk9, List.forall_mem_cons.2 ⟨tyOk10, List.forall_mem_cons.2 ⟨tyOk11, List.forall_mem_cons.2 ⟨tyOk12, List.forall_mem_cons.2 ⟨tyOk13, List.forall_mem_cons.2 ⟨tyOk14, List.forall_mem_cons.2 ⟨tyOk15, List.forall_mem_cons.2 ⟨tyOk16, List.forall_mem_cons.2 ⟨tyOk17, List.forall_mem_cons.2 ⟨tyOk18, List.forall_mem_cons.2 ⟨tyOk19, List.forall_mem_cons.2 ⟨tyOk20, List.forall_mem_cons.2 ⟨tyOk21, List.forall_mem_cons.2 ⟨tyOk22, List.forall_mem_cons.2 ⟨tyOk23, List.forall_mem_cons.2 ⟨tyOk24, List.forall_mem_cons.2 ⟨tyOk25, List.forall_mem_cons.2 ⟨tyOk26, List.forall_mem_cons.2 ⟨tyOk27, List.forall_mem_cons.2 ⟨tyOk28, List.forall_mem_cons.2 ⟨tyOk30, List.forall_mem_cons.2 ⟨tyOk31, List.forall_mem_cons.2 ⟨tyOk32, List.forall_mem_cons.2 ⟨tyOk34, List.forall_mem_cons.2 ⟨tyOk35, List.forall_mem_cons.2 ⟨tyOk36, List.forall_mem_cons.2 ⟨tyOk37, List.forall_mem_cons.2 ⟨tyOk38, List.forall_mem_cons.2 ⟨tyOk39, List.forall_mem_cons.2 ⟨tyOk40, List.forall_mem_cons.2 ⟨tyOk41, List.forall_mem_cons.2 ⟨tyOk42, List.forall_mem_cons.2 ⟨tyOk43, List.forall_mem_cons.2 ⟨tyOk44, List.forall_mem_cons.2 ⟨tyOk45, List.forall_mem_cons.2 ⟨tyOk46, List.forall_mem_cons.2 ⟨tyOk47, List.forall_mem_cons.2 ⟨tyOk49, List.forall_mem_cons.2 ⟨tyOk50, List.forall_mem_cons.2 ⟨tyOk51, List.forall_mem_cons.2 ⟨tyOk53, List.forall_mem_cons.2 ⟨tyOk55, List.forall_mem_cons.2 ⟨tyOk56, List.forall_mem_cons.2 ⟨tyOk57, List.forall_mem_cons.2 ⟨tyOk58, List.forall_mem_cons.2 ⟨tyOk59, List.forall_mem_cons.2 ⟨tyOk60, List.forall_mem_cons.2 ⟨tyOk61, List.forall_mem_cons.2 ⟨tyOk62, List.forall_mem_cons.2 ⟨tyOk63, List.forall_mem_cons.2 ⟨tyOk64, List.forall_mem_cons.2 ⟨tyOk66, List.forall_mem_cons.2 ⟨tyOk67, List.forall_mem_cons.2 ⟨tyOk68, List.forall_mem_cons.2 ⟨tyOk69, List.forall_mem_cons.2 ⟨tyOk70, List.forall_mem_cons.2 ⟨tyOk72, List.forall_mem_cons.2 ⟨tyOk73, List.forall_mem_cons.2 ⟨tyOk74, List.forall_mem_cons.2 ⟨tyOk75, List.forall_mem_cons.2 ⟨tyOk76, List.forall_mem_cons.2 ⟨tyOk77, List.forall_mem_cons.2 ⟨tyOk78, List.forall_mem_cons.2 ⟨tyOk79, List.forall_mem_cons.2 ⟨tyOk80, List.forall_mem_cons.2 ⟨tyOk81, List.forall_mem_cons.2 ⟨tyOk82, List.forall_mem_cons.2 ⟨tyOk84, List.forall_mem_cons.2 ⟨tyOk85, List.forall_mem_cons.2 ⟨tyOk86, List.forall_mem_cons.2 ⟨tyOk87, List.forall_mem_cons.2 ⟨tyOk88, List.forall_mem_cons.2 ⟨tyOk89, List.forall_mem_cons.2 ⟨tyOk90, List.forall_mem_cons.2 ⟨tyOk91, List.forall_mem_cons.2 ⟨tyOk92, List.forall_mem_cons.2 ⟨tyOk93, List.forall_mem_cons.2 ⟨tyOk94, List.forall_mem_cons.2 ⟨tyOk95, List.forall_mem_cons.2 ⟨tyOk96, List.forall_mem_cons.2 ⟨tyOk97, List.forall_mem_cons.2 ⟨tyOk98, List.forall_mem_cons.2 ⟨tyOk99, List.forall_mem_cons.2 ⟨tyOk100, List.forall_mem_cons.2 ⟨tyOk102, List.forall_mem_cons.2 ⟨tyOk103, List.forall_mem_cons.2 ⟨tyOk104, List.forall_mem_cons.2 ⟨tyOk105, List.forall_mem_cons.2 ⟨tyOk106, List.forall_mem_cons.2 ⟨tyOk107, List.forall_mem_cons.2 ⟨tyOk108, List.forall_mem_cons.2 ⟨tyOk109, List.forall_mem_cons.2 ⟨tyOk110, List.forall_mem_cons.2 ⟨tyOk111, List.forall_mem_cons.2 ⟨tyOk113, List.forall_mem_cons.2 ⟨tyOk114, List.forall_mem_cons.2 ⟨tyOk115, List.forall_mem_cons.2 ⟨tyOk116, List.forall_mem_cons.2 ⟨tyOk117, List.forall_mem_cons.2 ⟨tyOk118, List.forall_mem_cons.2 ⟨tyOk119, List.forall_mem_cons.2 ⟨tyOk120, List.forall_mem_cons.2 ⟨tyOk121, List.forall_mem_cons.2 ⟨tyOk122, List.forall_mem_cons.2 ⟨tyOk123, List.forall_mem_cons.2 ⟨tyOk124, List.forall_mem_cons.2 ⟨tyOk125, List.forall_mem_cons.2 ⟨tyOk126, List.forall_mem_cons.2 ⟨tyOk127, List.forall_mem_cons.2 ⟨tyOk128, List.forall_mem_cons.2 ⟨tyOk130, List.forall_mem_cons.2 ⟨tyOk131, List.forall_mem_cons.2 ⟨tyOk132, List.forall_mem_cons.2 ⟨tyOk133, List.forall_mem_cons.2 ⟨tyOk134, List.forall_mem_cons.2 ⟨tyOk135, List.forall_mem_cons.2 ⟨tyOk136, List.forall_mem_cons.2 ⟨tyOk137, List.forall_mem_cons.2 ⟨tyOk138, List.forall_mem_cons.2 ⟨tyOk139, List.forall_mem_cons.2 ⟨tyOk140, List.forall_mem_cons.2 ⟨tyOk141, List.forall_mem_cons.2 ⟨tyOk142, List.forall_mem_cons.2 ⟨tyOk143, List.forall_mem_cons.2 ⟨tyOk144, List.forall_mem_cons.2 ⟨tyOk145, List.forall_mem_cons.2 ⟨tyOk146, List.forall_mem_cons.2 ⟨tyOk147, List.forall_mem_cons.2 ⟨tyOk148, List.forall_mem_cons.2 ⟨tyOk149, List.forall_mem_cons.2 ⟨tyOk150, List.forall_mem_cons.2 ⟨tyOk151, List.forall_mem_cons.2 ⟨tyOk153, List.forall_mem_cons.2 ⟨tyOk154, List.forall_mem_cons.2 ⟨tyOk155, List.forall_mem_cons.2 ⟨tyOk156, List.forall_mem_cons.2 ⟨tyOk157, List.forall_mem_cons.2 ⟨tyOk158, List.forall_mem_cons.2 ⟨tyOk159, List.forall_mem_cons.2 ⟨tyOk160, List.forall_mem_cons.2 ⟨tyOk161, List.forall_mem_cons.2 ⟨tyOk162, List.forall_mem_cons.2 ⟨tyOk163, List.forall_mem_cons.2 ⟨tyOk164, List.forall_mem_cons.2 ⟨tyOk165, List.forall_mem_cons.2 ⟨tyOk166, List.forall_mem_cons.2 ⟨tyOk167, List.forall_mem_cons.2 ⟨tyOk168, List.forall_mem_cons.2 ⟨tyOk169, List.forall_mem_cons.2 ⟨tyOk170, List.forall_mem_cons.2 ⟨tyOk171, List.forall_mem_cons.2 ⟨tyOk173, List.forall_mem_cons.2 ⟨tyOk174, List.forall_mem_cons.2 ⟨tyOk175, List.forall_mem_cons.2 ⟨tyOk176, List.forall_mem_cons.2 ⟨tyOk177, List.forall_mem_cons.2 ⟨tyOk178, List.forall_mem_cons.2 ⟨tyOk180, List.forall_mem_cons.2 ⟨tyOk181, List.forall_mem_cons.2 ⟨tyOk182, List.forall_mem_cons.2 ⟨tyOk183, List.forall_mem_cons.2 ⟨tyOk184, List.forall_mem_cons.2 ⟨tyOk185, List.forall_mem_cons.2 ⟨tyOk186, List.forall_mem_cons.2 ⟨tyOk188, List.forall_mem_cons.2 ⟨tyOk189, List.forall_mem_cons.2 ⟨tyOk191, List.forall_mem_cons.2 ⟨tyOk193, List.forall_mem_cons.2 ⟨tyOk194, List.forall_mem_cons.2 ⟨tyOk195, List.forall_mem_cons.2 ⟨tyOk196, List.forall_mem_cons.2 ⟨tyOk197, List.forall_mem_cons.2 ⟨tyOk198, List.forall_mem_cons.2 ⟨tyOk199, List.forall_mem_cons.2 ⟨tyOk200, List.forall_mem_cons.2 ⟨tyOk201, List.forall_mem_cons.2 ⟨tyOk202, List.forall_mem_cons.2 ⟨tyOk203, List.forall_mem_cons.2 ⟨tyOk204, List.forall_mem_cons.2 ⟨tyOk205, List.forall_mem_cons.2 ⟨tyOk206, List.forall_mem_cons.2 ⟨tyOk207, List.forall_mem_cons.2 ⟨tyOk208, List.forall_mem_cons.2 ⟨tyOk209, List.forall_mem_cons.2 ⟨tyOk210, List.forall_mem_cons.2 ⟨tyOk211, List.forall_mem_cons.2 ⟨tyOk212, List.forall_mem_cons.2 ⟨tyOk213, List.forall_mem_cons.2 ⟨tyOk214, (fun _ h => by cases h)⟩⟩⟩⟩⟩⟩⟩⟩⟩⟩⟩⟩⟩⟩⟩⟩⟩⟩⟩⟩⟩⟩⟩⟩⟩⟩⟩⟩⟩⟩⟩⟩⟩⟩⟩⟩⟩⟩⟩⟩⟩⟩⟩⟩⟩⟩⟩⟩⟩⟩⟩⟩⟩⟩⟩⟩⟩⟩⟩⟩⟩⟩⟩⟩⟩⟩⟩⟩⟩⟩⟩⟩⟩⟩⟩⟩⟩⟩⟩⟩⟩⟩⟩⟩⟩⟩⟩⟩⟩⟩⟩⟩⟩⟩⟩⟩⟩⟩⟩⟩⟩⟩⟩⟩⟩⟩⟩⟩⟩⟩⟩⟩⟩⟩⟩⟩⟩⟩⟩⟩⟩⟩⟩⟩⟩⟩⟩⟩⟩⟩⟩⟩⟩⟩⟩⟩⟩⟩⟩⟩⟩⟩⟩⟩⟩⟩⟩⟩⟩⟩⟩⟩⟩⟩⟩⟩⟩⟩⟩⟩⟩⟩⟩⟩⟩⟩⟩⟩⟩⟩⟩⟩⟩⟩⟩⟩⟩⟩⟩⟩⟩⟩⟩⟩⟩⟩⟩⟩⟩⟩⟩⟩⟩⟩⟩⟩⟩
theorem tyOk (t : Nat) (h : tyKnown t = true) : TyOk Try.prog t (ty t) := tyOkL t (by unfold tyKnown at h; simpa using h)
end Go.Proofs.Ytclehkgnacekkaa.Vm
