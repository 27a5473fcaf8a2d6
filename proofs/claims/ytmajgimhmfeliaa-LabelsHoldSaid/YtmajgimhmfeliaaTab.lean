/- The table of the program's types, by program (gentab.py), out of the loaded program's own facts. Conditions: none. -/
import Derived.Test.YtmajgimhmfeliaaSxd
import Derived.Test.YtmajgimhmfeliaaProg
namespace Go.Sx
open Go.Proofs

def tyTab : Nat → Option Ty
  | 2 => some ⟨(TypeDesc.int IntKind.i64), 1, 8, (Value.int IntKind.i64 0)⟩
  | 3 => some ⟨(TypeDesc.int IntKind.i64), 1, 8, (Value.int IntKind.i64 0)⟩
  | 4 => some ⟨TypeDesc.bool, 1, 1, (Value.bool false)⟩
  | 5 => some ⟨(TypeDesc.int IntKind.u8), 1, 1, (Value.int IntKind.u8 0)⟩
  | 6 => some ⟨(TypeDesc.int IntKind.u8), 1, 1, (Value.int IntKind.u8 0)⟩
  | 7 => some ⟨(TypeDesc.struct #[{ name := "x", type := 2, offset := 0, embedded := false, tag := "", pkgPath := "runtime", byteOffset := 0 }, { name := "y", type := 3, offset := 1, embedded := false, tag := "", pkgPath := "runtime", byteOffset := 8 }, { name := "signed", type := 4, offset := 2, embedded := false, tag := "", pkgPath := "runtime", byteOffset := 16 }, { name := "code", type := 6, offset := 3, embedded := false, tag := "", pkgPath := "runtime", byteOffset := 17 }]), 4, 24, (Value.agg #[Value.int IntKind.i64 0, Value.int IntKind.i64 0, Value.bool false, Value.int IntKind.u8 0])⟩
  | 8 => some ⟨(TypeDesc.struct #[{ name := "x", type := 2, offset := 0, embedded := false, tag := "", pkgPath := "runtime", byteOffset := 0 }, { name := "y", type := 3, offset := 1, embedded := false, tag := "", pkgPath := "runtime", byteOffset := 8 }, { name := "signed", type := 4, offset := 2, embedded := false, tag := "", pkgPath := "runtime", byteOffset := 16 }, { name := "code", type := 6, offset := 3, embedded := false, tag := "", pkgPath := "runtime", byteOffset := 17 }]), 4, 24, (Value.agg #[Value.int IntKind.i64 0, Value.int IntKind.i64 0, Value.bool false, Value.int IntKind.u8 0])⟩
  | 9 => some ⟨TypeDesc.string, 1, 16, (Value.string { data := #[] })⟩
  | 10 => some ⟨TypeDesc.string, 1, 16, (Value.string { data := #[] })⟩
  | 11 => some ⟨TypeDesc.string, 1, 16, (Value.string { data := #[] })⟩
  | 12 => some ⟨(TypeDesc.int IntKind.u64), 1, 8, (Value.int IntKind.u64 0)⟩
  | 13 => some ⟨(TypeDesc.struct #[{ name := "msg", type := 9, offset := 0, embedded := false, tag := "", pkgPath := "runtime", byteOffset := 0 }, { name := "addr", type := 12, offset := 1, embedded := false, tag := "", pkgPath := "runtime", byteOffset := 16 }]), 2, 24, (Value.agg #[Value.string { data := #[] }, Value.int IntKind.u64 0])⟩
  | 14 => some ⟨(TypeDesc.struct #[{ name := "msg", type := 9, offset := 0, embedded := false, tag := "", pkgPath := "runtime", byteOffset := 0 }, { name := "addr", type := 12, offset := 1, embedded := false, tag := "", pkgPath := "runtime", byteOffset := 16 }]), 2, 24, (Value.agg #[Value.string { data := #[] }, Value.int IntKind.u64 0])⟩
  | 15 => some ⟨(TypeDesc.pointer 95), 1, 8, (Value.pointer none)⟩
  | 16 => some ⟨(TypeDesc.pointer 98), 1, 8, (Value.pointer none)⟩
  | 17 => some ⟨(TypeDesc.pointer 107), 1, 8, (Value.pointer none)⟩
  | 18 => some ⟨(TypeDesc.struct #[{ name := "typ", type := 17, offset := 0, embedded := false, tag := "", pkgPath := "internal/runtime/maps", byteOffset := 0 }]), 1, 8, (Value.agg #[Value.pointer none])⟩
  | 19 => some ⟨(TypeDesc.struct #[{ name := "typ", type := 17, offset := 0, embedded := false, tag := "", pkgPath := "internal/runtime/maps", byteOffset := 0 }]), 1, 8, (Value.agg #[Value.pointer none])⟩
  | 21 => some ⟨(TypeDesc.int IntKind.i32), 1, 4, (Value.int IntKind.i32 0)⟩
  | 22 => some ⟨(TypeDesc.slice 3), 1, 24, (Value.slice none 0 0)⟩
  | 23 => some ⟨(TypeDesc.struct #[{ name := "N", type := 3, offset := 0, embedded := false, tag := "", pkgPath := "", byteOffset := 0 }, { name := "Links", type := 22, offset := 1, embedded := false, tag := "", pkgPath := "", byteOffset := 8 }, { name := "Weights", type := 22, offset := 2, embedded := false, tag := "", pkgPath := "", byteOffset := 32 }, { name := "IDs", type := 22, offset := 3, embedded := false, tag := "", pkgPath := "", byteOffset := 56 }, { name := "Apart", type := 4, offset := 4, embedded := false, tag := "", pkgPath := "", byteOffset := 80 }, { name := "Backwards", type := 4, offset := 5, embedded := false, tag := "", pkgPath := "", byteOffset := 81 }]), 6, 88, (Value.agg #[Value.int IntKind.i64 0, Value.slice none 0 0, Value.slice none 0 0, Value.slice none 0 0, Value.bool false, Value.bool false])⟩
  | 24 => some ⟨(TypeDesc.struct #[{ name := "N", type := 3, offset := 0, embedded := false, tag := "", pkgPath := "", byteOffset := 0 }, { name := "Links", type := 22, offset := 1, embedded := false, tag := "", pkgPath := "", byteOffset := 8 }, { name := "Weights", type := 22, offset := 2, embedded := false, tag := "", pkgPath := "", byteOffset := 32 }, { name := "IDs", type := 22, offset := 3, embedded := false, tag := "", pkgPath := "", byteOffset := 56 }, { name := "Apart", type := 4, offset := 4, embedded := false, tag := "", pkgPath := "", byteOffset := 80 }, { name := "Backwards", type := 4, offset := 5, embedded := false, tag := "", pkgPath := "", byteOffset := 81 }]), 6, 88, (Value.agg #[Value.int IntKind.i64 0, Value.slice none 0 0, Value.slice none 0 0, Value.slice none 0 0, Value.bool false, Value.bool false])⟩
  | 25 => some ⟨(TypeDesc.struct #[{ name := "Kind", type := 3, offset := 0, embedded := false, tag := "", pkgPath := "", byteOffset := 0 }, { name := "State", type := 22, offset := 1, embedded := false, tag := "", pkgPath := "", byteOffset := 8 }, { name := "Labels", type := 22, offset := 2, embedded := false, tag := "", pkgPath := "", byteOffset := 32 }]), 3, 56, (Value.agg #[Value.int IntKind.i64 0, Value.slice none 0 0, Value.slice none 0 0])⟩
  | 26 => some ⟨(TypeDesc.struct #[{ name := "Kind", type := 3, offset := 0, embedded := false, tag := "", pkgPath := "", byteOffset := 0 }, { name := "State", type := 22, offset := 1, embedded := false, tag := "", pkgPath := "", byteOffset := 8 }, { name := "Labels", type := 22, offset := 2, embedded := false, tag := "", pkgPath := "", byteOffset := 32 }]), 3, 56, (Value.agg #[Value.int IntKind.i64 0, Value.slice none 0 0, Value.slice none 0 0])⟩
  | 27 => some ⟨(TypeDesc.slice 41), 1, 24, (Value.slice none 0 0)⟩
  | 28 => some ⟨(TypeDesc.struct #[{ name := "IDs", type := 22, offset := 0, embedded := false, tag := "", pkgPath := "", byteOffset := 0 }, { name := "Ports", type := 27, offset := 1, embedded := false, tag := "", pkgPath := "", byteOffset := 24 }]), 2, 48, (Value.agg #[Value.slice none 0 0, Value.slice none 0 0])⟩
  | 29 => some ⟨(TypeDesc.struct #[{ name := "IDs", type := 22, offset := 0, embedded := false, tag := "", pkgPath := "", byteOffset := 0 }, { name := "Ports", type := 27, offset := 1, embedded := false, tag := "", pkgPath := "", byteOffset := 24 }]), 2, 48, (Value.agg #[Value.slice none 0 0, Value.slice none 0 0])⟩
  | 30 => some ⟨(TypeDesc.func #[3] #[29] false), 1, 8, Value.nilFunc⟩
  | 31 => some ⟨(TypeDesc.slice 42), 1, 24, (Value.slice none 0 0)⟩
  | 33 => some ⟨(TypeDesc.func #[29] #[3, 22, 31] false), 1, 8, Value.nilFunc⟩
  | 34 => some ⟨(TypeDesc.int IntKind.i64), 1, 8, (Value.int IntKind.i64 0)⟩
  | 36 => some ⟨(TypeDesc.func #[3, 29, 22] #[31, 34] false), 1, 8, Value.nilFunc⟩
  | 37 => some ⟨(TypeDesc.func #[] #[4] false), 1, 8, Value.nilFunc⟩
  | 38 => some ⟨(TypeDesc.int IntKind.u32), 1, 4, (Value.int IntKind.u32 0)⟩
  | 39 => some ⟨(TypeDesc.struct #[{ name := "To", type := 3, offset := 0, embedded := false, tag := "", pkgPath := "", byteOffset := 0 }, { name := "Weight", type := 3, offset := 1, embedded := false, tag := "", pkgPath := "", byteOffset := 8 }]), 2, 16, (Value.agg #[Value.int IntKind.i64 0, Value.int IntKind.i64 0])⟩
  | 40 => some ⟨(TypeDesc.struct #[{ name := "To", type := 3, offset := 0, embedded := false, tag := "", pkgPath := "", byteOffset := 0 }, { name := "Weight", type := 3, offset := 1, embedded := false, tag := "", pkgPath := "", byteOffset := 8 }]), 2, 16, (Value.agg #[Value.int IntKind.i64 0, Value.int IntKind.i64 0])⟩
  | 41 => some ⟨(TypeDesc.slice 40), 1, 24, (Value.slice none 0 0)⟩
  | 42 => some ⟨(TypeDesc.array 2 3), 2, 16, (Value.agg #[Value.int IntKind.i64 0, Value.int IntKind.i64 0])⟩
  | 43 => some ⟨(TypeDesc.int IntKind.u64), 1, 8, (Value.int IntKind.u64 0)⟩
  | 44 => some ⟨(TypeDesc.func #[3, 3] #[3] false), 1, 8, Value.nilFunc⟩
  | 45 => some ⟨(TypeDesc.func #[29, 3, 3] #[3] false), 1, 8, Value.nilFunc⟩
  | 46 => some ⟨(TypeDesc.func #[38, 3] #[4] false), 1, 8, Value.nilFunc⟩
  | 47 => some ⟨(TypeDesc.func #[24, 26, 22] #[4] false), 1, 8, Value.nilFunc⟩
  | 48 => some ⟨(TypeDesc.func #[29, 3] #[4] false), 1, 8, Value.nilFunc⟩
  | 49 => some ⟨(TypeDesc.func #[3, 29, 22] #[4] false), 1, 8, Value.nilFunc⟩
  | 50 => some ⟨(TypeDesc.func #[31, 31] #[4] false), 1, 8, Value.nilFunc⟩
  | 51 => some ⟨(TypeDesc.func #[3, 29, 22, 31, 3] #[4] false), 1, 8, Value.nilFunc⟩
  | 52 => some ⟨(TypeDesc.func #[3, 29, 22, 31] #[38] false), 1, 8, Value.nilFunc⟩
  | 53 => some ⟨(TypeDesc.func #[24, 26, 3] #[4] false), 1, 8, Value.nilFunc⟩
  | 54 => some ⟨(TypeDesc.func #[3, 22, 31] #[4] false), 1, 8, Value.nilFunc⟩
  | 55 => some ⟨(TypeDesc.func #[24, 26] #[4] false), 1, 8, Value.nilFunc⟩
  | 56 => some ⟨(TypeDesc.func #[29] #[29] false), 1, 8, Value.nilFunc⟩
  | 57 => some ⟨(TypeDesc.func #[29] #[4] false), 1, 8, Value.nilFunc⟩
  | 58 => some ⟨(TypeDesc.func #[3] #[4] false), 1, 8, Value.nilFunc⟩
  | 59 => some ⟨(TypeDesc.func #[29, 22] #[31, 4] false), 1, 8, Value.nilFunc⟩
  | 60 => some ⟨(TypeDesc.array 4 59), 4, 32, (Value.agg #[Value.nilFunc, Value.nilFunc, Value.nilFunc, Value.nilFunc])⟩
  | 62 => some ⟨(TypeDesc.func #[3, 3, 3] #[4] false), 1, 8, Value.nilFunc⟩
  | 63 => some ⟨(TypeDesc.func #[22, 3] #[3] false), 1, 8, Value.nilFunc⟩
  | 64 => some ⟨(TypeDesc.func #[29, 22, 3] #[3] false), 1, 8, Value.nilFunc⟩
  | 65 => some ⟨(TypeDesc.func #[29, 3] #[22] false), 1, 8, Value.nilFunc⟩
  | 67 => some ⟨(TypeDesc.func #[29, 22] #[22, 4] false), 1, 8, Value.nilFunc⟩
  | 68 => some ⟨(TypeDesc.func #[29, 22] #[4] false), 1, 8, Value.nilFunc⟩
  | 69 => some ⟨(TypeDesc.func #[3, 29, 3, 3] #[4] false), 1, 8, Value.nilFunc⟩
  | 70 => some ⟨(TypeDesc.func #[29, 3, 3, 3] #[] false), 1, 8, Value.nilFunc⟩
  | 71 => some ⟨(TypeDesc.func #[87] #[] false), 1, 8, Value.nilFunc⟩
  | 72 => some ⟨(TypeDesc.func #[87] #[] false), 1, 8, Value.nilFunc⟩
  | 73 => some ⟨(TypeDesc.func #[29] #[72] false), 1, 8, Value.nilFunc⟩
  | 74 => some ⟨(TypeDesc.struct #[{ name := "g", type := 29, offset := 0, embedded := false, tag := "", pkgPath := "selfstab/labels", byteOffset := 0 }, { name := "partners", type := 22, offset := 2, embedded := false, tag := "", pkgPath := "selfstab/labels", byteOffset := 48 }, { name := "values", type := 22, offset := 3, embedded := false, tag := "", pkgPath := "selfstab/labels", byteOffset := 72 }]), 4, 96, (Value.agg #[Value.slice none 0 0, Value.slice none 0 0, Value.slice none 0 0, Value.slice none 0 0])⟩
  | 75 => some ⟨(TypeDesc.struct #[{ name := "g", type := 29, offset := 0, embedded := false, tag := "", pkgPath := "selfstab/labels", byteOffset := 0 }, { name := "partners", type := 22, offset := 2, embedded := false, tag := "", pkgPath := "selfstab/labels", byteOffset := 48 }, { name := "values", type := 22, offset := 3, embedded := false, tag := "", pkgPath := "selfstab/labels", byteOffset := 72 }]), 4, 96, (Value.agg #[Value.slice none 0 0, Value.slice none 0 0, Value.slice none 0 0, Value.slice none 0 0])⟩
  | 76 => some ⟨(TypeDesc.func #[3, 3] #[4] false), 1, 8, Value.nilFunc⟩
  | 77 => some ⟨(TypeDesc.func #[22] #[3] false), 1, 8, Value.nilFunc⟩
  | 78 => some ⟨(TypeDesc.func #[29, 22, 22] #[22, 4] false), 1, 8, Value.nilFunc⟩
  | 79 => some ⟨(TypeDesc.func #[22] #[4] false), 1, 8, Value.nilFunc⟩
  | 80 => some ⟨(TypeDesc.func #[27] #[4] false), 1, 8, Value.nilFunc⟩
  | 81 => some ⟨(TypeDesc.func #[42] #[4] false), 1, 8, Value.nilFunc⟩
  | 82 => some ⟨(TypeDesc.func #[29, 3, 83] #[3] false), 1, 8, Value.nilFunc⟩
  | 83 => some ⟨(TypeDesc.func #[40] #[4] false), 1, 8, Value.nilFunc⟩
  | 84 => some ⟨(TypeDesc.func #[81] #[4] false), 1, 8, Value.nilFunc⟩
  | 85 => some ⟨(TypeDesc.func #[41, 3, 3] #[4] false), 1, 8, Value.nilFunc⟩
  | 86 => some ⟨(TypeDesc.func #[29, 3, 3] #[4] false), 1, 8, Value.nilFunc⟩
  | 87 => some ⟨(TypeDesc.func #[3, 40] #[4] false), 1, 8, Value.nilFunc⟩
  | 88 => some ⟨(TypeDesc.pointer 75), 1, 8, (Value.pointer none)⟩
  | 89 => some ⟨(TypeDesc.array 256 4), 256, 256, (Value.agg (([Value.bool false, Value.bool false, Value.bool false, Value.bool false, Value.bool false, Value.bool false, Value.bool false, Value.bool false, Value.bool false, Value.bool false, Value.bool false, Value.bool false, Value.bool false, Value.bool false, Value.bool false, Value.bool false, Value.bool false, Value.bool false, Value.bool false, Value.bool false, Value.bool false, Value.bool false, Value.bool false, Value.bool false, Value.bool false, Value.bool false, Value.bool false, Value.bool false, Value.bool false, Value.bool false, Value.bool false, Value.bool false, Value.bool false, Value.bool false, Value.bool false, Value.bool false, Value.bool false, Value.bool false, Value.bool false, Value.bool false, Value.bool false, Value.bool false, Value.bool false, Value.bool false, Value.bool false, Value.bool false, Value.bool false, Value.bool false, Value.bool false, Value.bool false, Value.bool false, Value.bool false, Value.bool false, Value.bool false, Value.bool false, Value.bool false, Value.bool false, Value.bool false, Value.bool false, Value.bool false, Value.bool false, Value.bool false, Value.bool false, Value.bool false].append [Value.bool false, Value.bool false, Value.bool false, Value.bool false, Value.bool false, Value.bool false, Value.bool false, Value.bool false, Value.bool false, Value.bool false, Value.bool false, Value.bool false, Value.bool false, Value.bool false, Value.bool false, Value.bool false, Value.bool false, Value.bool false, Value.bool false, Value.bool false, Value.bool false, Value.bool false, Value.bool false, Value.bool false, Value.bool false, Value.bool false, Value.bool false, Value.bool false, Value.bool false, Value.bool false, Value.bool false, Value.bool false, Value.bool false, Value.bool false, Value.bool false, Value.bool false, Value.bool false, Value.bool false, Value.bool false, Value.bool false, Value.bool false, Value.bool false, Value.bool false, Value.bool false, Value.bool false, Value.bool false, Value.bool false, Value.bool false, Value.bool false, Value.bool false, Value.bool false, Value.bool false, Value.bool false, Value.bool false, Value.bool false, Value.bool false, Value.bool false, Value.bool false, Value.bool false, Value.bool false, Value.bool false, Value.bool false, Value.bool false, Value.bool false]).append ([Value.bool false, Value.bool false, Value.bool false, Value.bool false, Value.bool false, Value.bool false, Value.bool false, Value.bool false, Value.bool false, Value.bool false, Value.bool false, Value.bool false, Value.bool false, Value.bool false, Value.bool false, Value.bool false, Value.bool false, Value.bool false, Value.bool false, Value.bool false, Value.bool false, Value.bool false, Value.bool false, Value.bool false, Value.bool false, Value.bool false, Value.bool false, Value.bool false, Value.bool false, Value.bool false, Value.bool false, Value.bool false, Value.bool false, Value.bool false, Value.bool false, Value.bool false, Value.bool false, Value.bool false, Value.bool false, Value.bool false, Value.bool false, Value.bool false, Value.bool false, Value.bool false, Value.bool false, Value.bool false, Value.bool false, Value.bool false, Value.bool false, Value.bool false, Value.bool false, Value.bool false, Value.bool false, Value.bool false, Value.bool false, Value.bool false, Value.bool false, Value.bool false, Value.bool false, Value.bool false, Value.bool false, Value.bool false, Value.bool false, Value.bool false].append [Value.bool false, Value.bool false, Value.bool false, Value.bool false, Value.bool false, Value.bool false, Value.bool false, Value.bool false, Value.bool false, Value.bool false, Value.bool false, Value.bool false, Value.bool false, Value.bool false, Value.bool false, Value.bool false, Value.bool false, Value.bool false, Value.bool false, Value.bool false, Value.bool false, Value.bool false, Value.bool false, Value.bool false, Value.bool false, Value.bool false, Value.bool false, Value.bool false, Value.bool false, Value.bool false, Value.bool false, Value.bool false, Value.bool false, Value.bool false, Value.bool false, Value.bool false, Value.bool false, Value.bool false, Value.bool false, Value.bool false, Value.bool false, Value.bool false, Value.bool false, Value.bool false, Value.bool false, Value.bool false, Value.bool false, Value.bool false, Value.bool false, Value.bool false, Value.bool false, Value.bool false, Value.bool false, Value.bool false, Value.bool false, Value.bool false, Value.bool false, Value.bool false, Value.bool false, Value.bool false, Value.bool false, Value.bool false, Value.bool false, Value.bool false])).toArray)⟩
  | 90 => some ⟨(TypeDesc.map 42 3), 1, 8, (Value.map none)⟩
  | 92 => some ⟨(TypeDesc.func #[29, 3] #[3] false), 1, 8, Value.nilFunc⟩
  | 93 => some ⟨(TypeDesc.func #[] #[9] false), 1, 8, Value.nilFunc⟩
  | 94 => some ⟨(TypeDesc.struct #[{ name := "_interface", type := 17, offset := 0, embedded := false, tag := "", pkgPath := "runtime", byteOffset := 0 }, { name := "concrete", type := 17, offset := 1, embedded := false, tag := "", pkgPath := "runtime", byteOffset := 8 }, { name := "asserted", type := 17, offset := 2, embedded := false, tag := "", pkgPath := "runtime", byteOffset := 16 }, { name := "missingMethod", type := 9, offset := 3, embedded := false, tag := "", pkgPath := "runtime", byteOffset := 24 }]), 4, 40, (Value.agg #[Value.pointer none, Value.pointer none, Value.pointer none, Value.string { data := #[] }])⟩
  | 95 => some ⟨(TypeDesc.struct #[{ name := "_interface", type := 17, offset := 0, embedded := false, tag := "", pkgPath := "runtime", byteOffset := 0 }, { name := "concrete", type := 17, offset := 1, embedded := false, tag := "", pkgPath := "runtime", byteOffset := 8 }, { name := "asserted", type := 17, offset := 2, embedded := false, tag := "", pkgPath := "runtime", byteOffset := 16 }, { name := "missingMethod", type := 9, offset := 3, embedded := false, tag := "", pkgPath := "runtime", byteOffset := 24 }]), 4, 40, (Value.agg #[Value.pointer none, Value.pointer none, Value.pointer none, Value.string { data := #[] }])⟩
  | 96 => some ⟨(TypeDesc.array 0 16), 0, 0, (Value.agg #[])⟩
  | 97 => some ⟨(TypeDesc.struct #[{ name := "_", type := 96, offset := 0, embedded := false, tag := "", pkgPath := "runtime", byteOffset := 0 }]), 0, 0, (Value.agg #[])⟩
  | 98 => some ⟨(TypeDesc.struct #[{ name := "_", type := 96, offset := 0, embedded := false, tag := "", pkgPath := "runtime", byteOffset := 0 }]), 0, 0, (Value.agg #[])⟩
  | 99 => some ⟨(TypeDesc.func #[] #[3] false), 1, 8, Value.nilFunc⟩
  | 100 => some ⟨(TypeDesc.int IntKind.u8), 1, 1, (Value.int IntKind.u8 0)⟩
  | 101 => some ⟨(TypeDesc.int IntKind.u8), 1, 1, (Value.int IntKind.u8 0)⟩
  | 102 => some ⟨(TypeDesc.func #[108, 108] #[4] false), 1, 8, Value.nilFunc⟩
  | 103 => some ⟨(TypeDesc.pointer 5), 1, 8, (Value.pointer none)⟩
  | 104 => some ⟨(TypeDesc.int IntKind.i32), 1, 4, (Value.int IntKind.i32 0)⟩
  | 105 => some ⟨(TypeDesc.int IntKind.i32), 1, 4, (Value.int IntKind.i32 0)⟩
  | 106 => some ⟨(TypeDesc.struct #[{ name := "Size_", type := 12, offset := 0, embedded := false, tag := "", pkgPath := "", byteOffset := 0 }, { name := "PtrBytes", type := 12, offset := 1, embedded := false, tag := "", pkgPath := "", byteOffset := 8 }, { name := "Hash", type := 38, offset := 2, embedded := false, tag := "", pkgPath := "", byteOffset := 16 }, { name := "TFlag", type := 100, offset := 3, embedded := false, tag := "", pkgPath := "", byteOffset := 20 }, { name := "Align_", type := 5, offset := 4, embedded := false, tag := "", pkgPath := "", byteOffset := 21 }, { name := "FieldAlign_", type := 5, offset := 5, embedded := false, tag := "", pkgPath := "", byteOffset := 22 }, { name := "Kind_", type := 101, offset := 6, embedded := false, tag := "", pkgPath := "", byteOffset := 23 }, { name := "Equal", type := 102, offset := 7, embedded := false, tag := "", pkgPath := "", byteOffset := 24 }, { name := "GCData", type := 103, offset := 8, embedded := false, tag := "", pkgPath := "", byteOffset := 32 }, { name := "Str", type := 104, offset := 9, embedded := false, tag := "", pkgPath := "", byteOffset := 40 }, { name := "PtrToThis", type := 105, offset := 10, embedded := false, tag := "", pkgPath := "", byteOffset := 44 }]), 11, 48, (Value.agg #[Value.int IntKind.u64 0, Value.int IntKind.u64 0, Value.int IntKind.u32 0, Value.int IntKind.u8 0, Value.int IntKind.u8 0, Value.int IntKind.u8 0, Value.int IntKind.u8 0, Value.nilFunc, Value.pointer none, Value.int IntKind.i32 0, Value.int IntKind.i32 0])⟩
  | 107 => some ⟨(TypeDesc.struct #[{ name := "Size_", type := 12, offset := 0, embedded := false, tag := "", pkgPath := "", byteOffset := 0 }, { name := "PtrBytes", type := 12, offset := 1, embedded := false, tag := "", pkgPath := "", byteOffset := 8 }, { name := "Hash", type := 38, offset := 2, embedded := false, tag := "", pkgPath := "", byteOffset := 16 }, { name := "TFlag", type := 100, offset := 3, embedded := false, tag := "", pkgPath := "", byteOffset := 20 }, { name := "Align_", type := 5, offset := 4, embedded := false, tag := "", pkgPath := "", byteOffset := 21 }, { name := "FieldAlign_", type := 5, offset := 5, embedded := false, tag := "", pkgPath := "", byteOffset := 22 }, { name := "Kind_", type := 101, offset := 6, embedded := false, tag := "", pkgPath := "", byteOffset := 23 }, { name := "Equal", type := 102, offset := 7, embedded := false, tag := "", pkgPath := "", byteOffset := 24 }, { name := "GCData", type := 103, offset := 8, embedded := false, tag := "", pkgPath := "", byteOffset := 32 }, { name := "Str", type := 104, offset := 9, embedded := false, tag := "", pkgPath := "", byteOffset := 40 }, { name := "PtrToThis", type := 105, offset := 10, embedded := false, tag := "", pkgPath := "", byteOffset := 44 }]), 11, 48, (Value.agg #[Value.int IntKind.u64 0, Value.int IntKind.u64 0, Value.int IntKind.u32 0, Value.int IntKind.u8 0, Value.int IntKind.u8 0, Value.int IntKind.u8 0, Value.int IntKind.u8 0, Value.nilFunc, Value.pointer none, Value.int IntKind.i32 0, Value.int IntKind.i32 0])⟩
  | 108 => some ⟨TypeDesc.unsafePointer, 1, 8, (Value.pointer none)⟩
  | _ => none

theorem tyOk2 {d : Ty} (h : tyTab 2 = some d) : TyOk Try.prog 2 d := by
  cases h; exact ⟨Try.underlying2, Try.t2, Try.type2, rfl, rfl, rfl⟩
theorem tyOk3 {d : Ty} (h : tyTab 3 = some d) : TyOk Try.prog 3 d := by
  cases h; exact ⟨Try.underlying3, Try.t3, Try.type3, rfl, rfl, rfl⟩
theorem tyOk4 {d : Ty} (h : tyTab 4 = some d) : TyOk Try.prog 4 d := by
  cases h; exact ⟨Try.underlying4, Try.t4, Try.type4, rfl, rfl, rfl⟩
theorem tyOk5 {d : Ty} (h : tyTab 5 = some d) : TyOk Try.prog 5 d := by
  cases h; exact ⟨Try.underlying5, Try.t5, Try.type5, rfl, rfl, rfl⟩
theorem tyOk6 {d : Ty} (h : tyTab 6 = some d) : TyOk Try.prog 6 d := by
  cases h; exact ⟨Try.underlying6, Try.t6, Try.type6, rfl, rfl, rfl⟩
theorem tyOk7 {d : Ty} (h : tyTab 7 = some d) : TyOk Try.prog 7 d := by
  cases h; exact ⟨Try.underlying7, Try.t7, Try.type7, rfl, rfl, rfl⟩
theorem tyOk8 {d : Ty} (h : tyTab 8 = some d) : TyOk Try.prog 8 d := by
  cases h; exact ⟨Try.underlying8, Try.t8, Try.type8, rfl, rfl, rfl⟩
theorem tyOk9 {d : Ty} (h : tyTab 9 = some d) : TyOk Try.prog 9 d := by
  cases h; exact ⟨Try.underlying9, Try.t9, Try.type9, rfl, rfl, rfl⟩
theorem tyOk10 {d : Ty} (h : tyTab 10 = some d) : TyOk Try.prog 10 d := by
  cases h; exact ⟨Try.underlying10, Try.t10, Try.type10, rfl, rfl, rfl⟩
theorem tyOk11 {d : Ty} (h : tyTab 11 = some d) : TyOk Try.prog 11 d := by
  cases h; exact ⟨Try.underlying11, Try.t11, Try.type11, rfl, rfl, rfl⟩
theorem tyOk12 {d : Ty} (h : tyTab 12 = some d) : TyOk Try.prog 12 d := by
  cases h; exact ⟨Try.underlying12, Try.t12, Try.type12, rfl, rfl, rfl⟩
theorem tyOk13 {d : Ty} (h : tyTab 13 = some d) : TyOk Try.prog 13 d := by
  cases h; exact ⟨Try.underlying13, Try.t13, Try.type13, rfl, rfl, rfl⟩
theorem tyOk14 {d : Ty} (h : tyTab 14 = some d) : TyOk Try.prog 14 d := by
  cases h; exact ⟨Try.underlying14, Try.t14, Try.type14, rfl, rfl, rfl⟩
theorem tyOk15 {d : Ty} (h : tyTab 15 = some d) : TyOk Try.prog 15 d := by
  cases h; exact ⟨Try.underlying15, Try.t15, Try.type15, rfl, rfl, rfl⟩
theorem tyOk16 {d : Ty} (h : tyTab 16 = some d) : TyOk Try.prog 16 d := by
  cases h; exact ⟨Try.underlying16, Try.t16, Try.type16, rfl, rfl, rfl⟩
theorem tyOk17 {d : Ty} (h : tyTab 17 = some d) : TyOk Try.prog 17 d := by
  cases h; exact ⟨Try.underlying17, Try.t17, Try.type17, rfl, rfl, rfl⟩
theorem tyOk18 {d : Ty} (h : tyTab 18 = some d) : TyOk Try.prog 18 d := by
  cases h; exact ⟨Try.underlying18, Try.t18, Try.type18, rfl, rfl, rfl⟩
theorem tyOk19 {d : Ty} (h : tyTab 19 = some d) : TyOk Try.prog 19 d := by
  cases h; exact ⟨Try.underlying19, Try.t19, Try.type19, rfl, rfl, rfl⟩
theorem tyOk21 {d : Ty} (h : tyTab 21 = some d) : TyOk Try.prog 21 d := by
  cases h; exact ⟨Try.underlying21, Try.t21, Try.type21, rfl, rfl, rfl⟩
theorem tyOk22 {d : Ty} (h : tyTab 22 = some d) : TyOk Try.prog 22 d := by
  cases h; exact ⟨Try.underlying22, Try.t22, Try.type22, rfl, rfl, rfl⟩
theorem tyOk23 {d : Ty} (h : tyTab 23 = some d) : TyOk Try.prog 23 d := by
  cases h; exact ⟨Try.underlying23, Try.t23, Try.type23, rfl, rfl, rfl⟩
theorem tyOk24 {d : Ty} (h : tyTab 24 = some d) : TyOk Try.prog 24 d := by
  cases h; exact ⟨Try.underlying24, Try.t24, Try.type24, rfl, rfl, rfl⟩
theorem tyOk25 {d : Ty} (h : tyTab 25 = some d) : TyOk Try.prog 25 d := by
  cases h; exact ⟨Try.underlying25, Try.t25, Try.type25, rfl, rfl, rfl⟩
theorem tyOk26 {d : Ty} (h : tyTab 26 = some d) : TyOk Try.prog 26 d := by
  cases h; exact ⟨Try.underlying26, Try.t26, Try.type26, rfl, rfl, rfl⟩
theorem tyOk27 {d : Ty} (h : tyTab 27 = some d) : TyOk Try.prog 27 d := by
  cases h; exact ⟨Try.underlying27, Try.t27, Try.type27, rfl, rfl, rfl⟩
theorem tyOk28 {d : Ty} (h : tyTab 28 = some d) : TyOk Try.prog 28 d := by
  cases h; exact ⟨Try.underlying28, Try.t28, Try.type28, rfl, rfl, rfl⟩
theorem tyOk29 {d : Ty} (h : tyTab 29 = some d) : TyOk Try.prog 29 d := by
  cases h; exact ⟨Try.underlying29, Try.t29, Try.type29, rfl, rfl, rfl⟩
theorem tyOk30 {d : Ty} (h : tyTab 30 = some d) : TyOk Try.prog 30 d := by
  cases h; exact ⟨Try.underlying30, Try.t30, Try.type30, rfl, rfl, rfl⟩
theorem tyOk31 {d : Ty} (h : tyTab 31 = some d) : TyOk Try.prog 31 d := by
  cases h; exact ⟨Try.underlying31, Try.t31, Try.type31, rfl, rfl, rfl⟩
theorem tyOk33 {d : Ty} (h : tyTab 33 = some d) : TyOk Try.prog 33 d := by
  cases h; exact ⟨Try.underlying33, Try.t33, Try.type33, rfl, rfl, rfl⟩
theorem tyOk34 {d : Ty} (h : tyTab 34 = some d) : TyOk Try.prog 34 d := by
  cases h; exact ⟨Try.underlying34, Try.t34, Try.type34, rfl, rfl, rfl⟩
theorem tyOk36 {d : Ty} (h : tyTab 36 = some d) : TyOk Try.prog 36 d := by
  cases h; exact ⟨Try.underlying36, Try.t36, Try.type36, rfl, rfl, rfl⟩
theorem tyOk37 {d : Ty} (h : tyTab 37 = some d) : TyOk Try.prog 37 d := by
  cases h; exact ⟨Try.underlying37, Try.t37, Try.type37, rfl, rfl, rfl⟩
theorem tyOk38 {d : Ty} (h : tyTab 38 = some d) : TyOk Try.prog 38 d := by
  cases h; exact ⟨Try.underlying38, Try.t38, Try.type38, rfl, rfl, rfl⟩
theorem tyOk39 {d : Ty} (h : tyTab 39 = some d) : TyOk Try.prog 39 d := by
  cases h; exact ⟨Try.underlying39, Try.t39, Try.type39, rfl, rfl, rfl⟩
theorem tyOk40 {d : Ty} (h : tyTab 40 = some d) : TyOk Try.prog 40 d := by
  cases h; exact ⟨Try.underlying40, Try.t40, Try.type40, rfl, rfl, rfl⟩
theorem tyOk41 {d : Ty} (h : tyTab 41 = some d) : TyOk Try.prog 41 d := by
  cases h; exact ⟨Try.underlying41, Try.t41, Try.type41, rfl, rfl, rfl⟩
theorem tyOk42 {d : Ty} (h : tyTab 42 = some d) : TyOk Try.prog 42 d := by
  cases h; exact ⟨Try.underlying42, Try.t42, Try.type42, rfl, rfl, rfl⟩
theorem tyOk43 {d : Ty} (h : tyTab 43 = some d) : TyOk Try.prog 43 d := by
  cases h; exact ⟨Try.underlying43, Try.t43, Try.type43, rfl, rfl, rfl⟩
theorem tyOk44 {d : Ty} (h : tyTab 44 = some d) : TyOk Try.prog 44 d := by
  cases h; exact ⟨Try.underlying44, Try.t44, Try.type44, rfl, rfl, rfl⟩
theorem tyOk45 {d : Ty} (h : tyTab 45 = some d) : TyOk Try.prog 45 d := by
  cases h; exact ⟨Try.underlying45, Try.t45, Try.type45, rfl, rfl, rfl⟩
theorem tyOk46 {d : Ty} (h : tyTab 46 = some d) : TyOk Try.prog 46 d := by
  cases h; exact ⟨Try.underlying46, Try.t46, Try.type46, rfl, rfl, rfl⟩
theorem tyOk47 {d : Ty} (h : tyTab 47 = some d) : TyOk Try.prog 47 d := by
  cases h; exact ⟨Try.underlying47, Try.t47, Try.type47, rfl, rfl, rfl⟩
theorem tyOk48 {d : Ty} (h : tyTab 48 = some d) : TyOk Try.prog 48 d := by
  cases h; exact ⟨Try.underlying48, Try.t48, Try.type48, rfl, rfl, rfl⟩
theorem tyOk49 {d : Ty} (h : tyTab 49 = some d) : TyOk Try.prog 49 d := by
  cases h; exact ⟨Try.underlying49, Try.t49, Try.type49, rfl, rfl, rfl⟩
theorem tyOk50 {d : Ty} (h : tyTab 50 = some d) : TyOk Try.prog 50 d := by
  cases h; exact ⟨Try.underlying50, Try.t50, Try.type50, rfl, rfl, rfl⟩
theorem tyOk51 {d : Ty} (h : tyTab 51 = some d) : TyOk Try.prog 51 d := by
  cases h; exact ⟨Try.underlying51, Try.t51, Try.type51, rfl, rfl, rfl⟩
theorem tyOk52 {d : Ty} (h : tyTab 52 = some d) : TyOk Try.prog 52 d := by
  cases h; exact ⟨Try.underlying52, Try.t52, Try.type52, rfl, rfl, rfl⟩
theorem tyOk53 {d : Ty} (h : tyTab 53 = some d) : TyOk Try.prog 53 d := by
  cases h; exact ⟨Try.underlying53, Try.t53, Try.type53, rfl, rfl, rfl⟩
theorem tyOk54 {d : Ty} (h : tyTab 54 = some d) : TyOk Try.prog 54 d := by
  cases h; exact ⟨Try.underlying54, Try.t54, Try.type54, rfl, rfl, rfl⟩
theorem tyOk55 {d : Ty} (h : tyTab 55 = some d) : TyOk Try.prog 55 d := by
  cases h; exact ⟨Try.underlying55, Try.t55, Try.type55, rfl, rfl, rfl⟩
theorem tyOk56 {d : Ty} (h : tyTab 56 = some d) : TyOk Try.prog 56 d := by
  cases h; exact ⟨Try.underlying56, Try.t56, Try.type56, rfl, rfl, rfl⟩
theorem tyOk57 {d : Ty} (h : tyTab 57 = some d) : TyOk Try.prog 57 d := by
  cases h; exact ⟨Try.underlying57, Try.t57, Try.type57, rfl, rfl, rfl⟩
theorem tyOk58 {d : Ty} (h : tyTab 58 = some d) : TyOk Try.prog 58 d := by
  cases h; exact ⟨Try.underlying58, Try.t58, Try.type58, rfl, rfl, rfl⟩
theorem tyOk59 {d : Ty} (h : tyTab 59 = some d) : TyOk Try.prog 59 d := by
  cases h; exact ⟨Try.underlying59, Try.t59, Try.type59, rfl, rfl, rfl⟩
theorem tyOk60 {d : Ty} (h : tyTab 60 = some d) : TyOk Try.prog 60 d := by
  cases h; exact ⟨Try.underlying60, Try.t60, Try.type60, rfl, rfl, rfl⟩
theorem tyOk62 {d : Ty} (h : tyTab 62 = some d) : TyOk Try.prog 62 d := by
  cases h; exact ⟨Try.underlying62, Try.t62, Try.type62, rfl, rfl, rfl⟩
theorem tyOk63 {d : Ty} (h : tyTab 63 = some d) : TyOk Try.prog 63 d := by
  cases h; exact ⟨Try.underlying63, Try.t63, Try.type63, rfl, rfl, rfl⟩
theorem tyOk64 {d : Ty} (h : tyTab 64 = some d) : TyOk Try.prog 64 d := by
  cases h; exact ⟨Try.underlying64, Try.t64, Try.type64, rfl, rfl, rfl⟩
theorem tyOk65 {d : Ty} (h : tyTab 65 = some d) : TyOk Try.prog 65 d := by
  cases h; exact ⟨Try.underlying65, Try.t65, Try.type65, rfl, rfl, rfl⟩
theorem tyOk67 {d : Ty} (h : tyTab 67 = some d) : TyOk Try.prog 67 d := by
  cases h; exact ⟨Try.underlying67, Try.t67, Try.type67, rfl, rfl, rfl⟩
theorem tyOk68 {d : Ty} (h : tyTab 68 = some d) : TyOk Try.prog 68 d := by
  cases h; exact ⟨Try.underlying68, Try.t68, Try.type68, rfl, rfl, rfl⟩
theorem tyOk69 {d : Ty} (h : tyTab 69 = some d) : TyOk Try.prog 69 d := by
  cases h; exact ⟨Try.underlying69, Try.t69, Try.type69, rfl, rfl, rfl⟩
theorem tyOk70 {d : Ty} (h : tyTab 70 = some d) : TyOk Try.prog 70 d := by
  cases h; exact ⟨Try.underlying70, Try.t70, Try.type70, rfl, rfl, rfl⟩
theorem tyOk71 {d : Ty} (h : tyTab 71 = some d) : TyOk Try.prog 71 d := by
  cases h; exact ⟨Try.underlying71, Try.t71, Try.type71, rfl, rfl, rfl⟩
theorem tyOk72 {d : Ty} (h : tyTab 72 = some d) : TyOk Try.prog 72 d := by
  cases h; exact ⟨Try.underlying72, Try.t72, Try.type72, rfl, rfl, rfl⟩
theorem tyOk73 {d : Ty} (h : tyTab 73 = some d) : TyOk Try.prog 73 d := by
  cases h; exact ⟨Try.underlying73, Try.t73, Try.type73, rfl, rfl, rfl⟩
theorem tyOk74 {d : Ty} (h : tyTab 74 = some d) : TyOk Try.prog 74 d := by
  cases h; exact ⟨Try.underlying74, Try.t74, Try.type74, rfl, rfl, rfl⟩
theorem tyOk75 {d : Ty} (h : tyTab 75 = some d) : TyOk Try.prog 75 d := by
  cases h; exact ⟨Try.underlying75, Try.t75, Try.type75, rfl, rfl, rfl⟩
theorem tyOk76 {d : Ty} (h : tyTab 76 = some d) : TyOk Try.prog 76 d := by
  cases h; exact ⟨Try.underlying76, Try.t76, Try.type76, rfl, rfl, rfl⟩
theorem tyOk77 {d : Ty} (h : tyTab 77 = some d) : TyOk Try.prog 77 d := by
  cases h; exact ⟨Try.underlying77, Try.t77, Try.type77, rfl, rfl, rfl⟩
theorem tyOk78 {d : Ty} (h : tyTab 78 = some d) : TyOk Try.prog 78 d := by
  cases h; exact ⟨Try.underlying78, Try.t78, Try.type78, rfl, rfl, rfl⟩
theorem tyOk79 {d : Ty} (h : tyTab 79 = some d) : TyOk Try.prog 79 d := by
  cases h; exact ⟨Try.underlying79, Try.t79, Try.type79, rfl, rfl, rfl⟩
theorem tyOk80 {d : Ty} (h : tyTab 80 = some d) : TyOk Try.prog 80 d := by
  cases h; exact ⟨Try.underlying80, Try.t80, Try.type80, rfl, rfl, rfl⟩
theorem tyOk81 {d : Ty} (h : tyTab 81 = some d) : TyOk Try.prog 81 d := by
  cases h; exact ⟨Try.underlying81, Try.t81, Try.type81, rfl, rfl, rfl⟩
theorem tyOk82 {d : Ty} (h : tyTab 82 = some d) : TyOk Try.prog 82 d := by
  cases h; exact ⟨Try.underlying82, Try.t82, Try.type82, rfl, rfl, rfl⟩
theorem tyOk83 {d : Ty} (h : tyTab 83 = some d) : TyOk Try.prog 83 d := by
  cases h; exact ⟨Try.underlying83, Try.t83, Try.type83, rfl, rfl, rfl⟩
theorem tyOk84 {d : Ty} (h : tyTab 84 = some d) : TyOk Try.prog 84 d := by
  cases h; exact ⟨Try.underlying84, Try.t84, Try.type84, rfl, rfl, rfl⟩
theorem tyOk85 {d : Ty} (h : tyTab 85 = some d) : TyOk Try.prog 85 d := by
  cases h; exact ⟨Try.underlying85, Try.t85, Try.type85, rfl, rfl, rfl⟩
theorem tyOk86 {d : Ty} (h : tyTab 86 = some d) : TyOk Try.prog 86 d := by
  cases h; exact ⟨Try.underlying86, Try.t86, Try.type86, rfl, rfl, rfl⟩
theorem tyOk87 {d : Ty} (h : tyTab 87 = some d) : TyOk Try.prog 87 d := by
  cases h; exact ⟨Try.underlying87, Try.t87, Try.type87, rfl, rfl, rfl⟩
theorem tyOk88 {d : Ty} (h : tyTab 88 = some d) : TyOk Try.prog 88 d := by
  cases h; exact ⟨Try.underlying88, Try.t88, Try.type88, rfl, rfl, rfl⟩
theorem tyOk89 {d : Ty} (h : tyTab 89 = some d) : TyOk Try.prog 89 d := by
  cases h; exact ⟨Try.underlying89, Try.t89, Try.type89, rfl, rfl, rfl⟩
theorem tyOk90 {d : Ty} (h : tyTab 90 = some d) : TyOk Try.prog 90 d := by
  cases h; exact ⟨Try.underlying90, Try.t90, Try.type90, rfl, rfl, rfl⟩
theorem tyOk92 {d : Ty} (h : tyTab 92 = some d) : TyOk Try.prog 92 d := by
  cases h; exact ⟨Try.underlying92, Try.t92, Try.type92, rfl, rfl, rfl⟩
theorem tyOk93 {d : Ty} (h : tyTab 93 = some d) : TyOk Try.prog 93 d := by
  cases h; exact ⟨Try.underlying93, Try.t93, Try.type93, rfl, rfl, rfl⟩
theorem tyOk94 {d : Ty} (h : tyTab 94 = some d) : TyOk Try.prog 94 d := by
  cases h; exact ⟨Try.underlying94, Try.t94, Try.type94, rfl, rfl, rfl⟩
theorem tyOk95 {d : Ty} (h : tyTab 95 = some d) : TyOk Try.prog 95 d := by
  cases h; exact ⟨Try.underlying95, Try.t95, Try.type95, rfl, rfl, rfl⟩
theorem tyOk96 {d : Ty} (h : tyTab 96 = some d) : TyOk Try.prog 96 d := by
  cases h; exact ⟨Try.underlying96, Try.t96, Try.type96, rfl, rfl, rfl⟩
theorem tyOk97 {d : Ty} (h : tyTab 97 = some d) : TyOk Try.prog 97 d := by
  cases h; exact ⟨Try.underlying97, Try.t97, Try.type97, rfl, rfl, rfl⟩
theorem tyOk98 {d : Ty} (h : tyTab 98 = some d) : TyOk Try.prog 98 d := by
  cases h; exact ⟨Try.underlying98, Try.t98, Try.type98, rfl, rfl, rfl⟩
theorem tyOk99 {d : Ty} (h : tyTab 99 = some d) : TyOk Try.prog 99 d := by
  cases h; exact ⟨Try.underlying99, Try.t99, Try.type99, rfl, rfl, rfl⟩
theorem tyOk100 {d : Ty} (h : tyTab 100 = some d) : TyOk Try.prog 100 d := by
  cases h; exact ⟨Try.underlying100, Try.t100, Try.type100, rfl, rfl, rfl⟩
theorem tyOk101 {d : Ty} (h : tyTab 101 = some d) : TyOk Try.prog 101 d := by
  cases h; exact ⟨Try.underlying101, Try.t101, Try.type101, rfl, rfl, rfl⟩
theorem tyOk102 {d : Ty} (h : tyTab 102 = some d) : TyOk Try.prog 102 d := by
  cases h; exact ⟨Try.underlying102, Try.t102, Try.type102, rfl, rfl, rfl⟩
theorem tyOk103 {d : Ty} (h : tyTab 103 = some d) : TyOk Try.prog 103 d := by
  cases h; exact ⟨Try.underlying103, Try.t103, Try.type103, rfl, rfl, rfl⟩
theorem tyOk104 {d : Ty} (h : tyTab 104 = some d) : TyOk Try.prog 104 d := by
  cases h; exact ⟨Try.underlying104, Try.t104, Try.type104, rfl, rfl, rfl⟩
theorem tyOk105 {d : Ty} (h : tyTab 105 = some d) : TyOk Try.prog 105 d := by
  cases h; exact ⟨Try.underlying105, Try.t105, Try.type105, rfl, rfl, rfl⟩
theorem tyOk106 {d : Ty} (h : tyTab 106 = some d) : TyOk Try.prog 106 d := by
  cases h; exact ⟨Try.underlying106, Try.t106, Try.type106, rfl, rfl, rfl⟩
theorem tyOk107 {d : Ty} (h : tyTab 107 = some d) : TyOk Try.prog 107 d := by
  cases h; exact ⟨Try.underlying107, Try.t107, Try.type107, rfl, rfl, rfl⟩
theorem tyOk108 {d : Ty} (h : tyTab 108 = some d) : TyOk Try.prog 108 d := by
  cases h; exact ⟨Try.underlying108, Try.t108, Try.type108, rfl, rfl, rfl⟩

theorem tyTab_ok {T : Nat} {d : Ty} (h : tyTab T = some d) : TyOk Try.prog T d := by
  by_cases h2 : T = 2
  · subst h2; exact tyOk2 h
  by_cases h3 : T = 3
  · subst h3; exact tyOk3 h
  by_cases h4 : T = 4
  · subst h4; exact tyOk4 h
  by_cases h5 : T = 5
  · subst h5; exact tyOk5 h
  by_cases h6 : T = 6
  · subst h6; exact tyOk6 h
  by_cases h7 : T = 7
  · subst h7; exact tyOk7 h
  by_cases h8 : T = 8
  · subst h8; exact tyOk8 h
  by_cases h9 : T = 9
  · subst h9; exact tyOk9 h
  by_cases h10 : T = 10
  · subst h10; exact tyOk10 h
  by_cases h11 : T = 11
  · subst h11; exact tyOk11 h
  by_cases h12 : T = 12
  · subst h12; exact tyOk12 h
  by_cases h13 : T = 13
  · subst h13; exact tyOk13 h
  by_cases h14 : T = 14
  · subst h14; exact tyOk14 h
  by_cases h15 : T = 15
  · subst h15; exact tyOk15 h
  by_cases h16 : T = 16
  · subst h16; exact tyOk16 h
  by_cases h17 : T = 17
  · subst h17; exact tyOk17 h
  by_cases h18 : T = 18
  · subst h18; exact tyOk18 h
  by_cases h19 : T = 19
  · subst h19; exact tyOk19 h
  by_cases h21 : T = 21
  · subst h21; exact tyOk21 h
  by_cases h22 : T = 22
  · subst h22; exact tyOk22 h
  by_cases h23 : T = 23
  · subst h23; exact tyOk23 h
  by_cases h24 : T = 24
  · subst h24; exact tyOk24 h
  by_cases h25 : T = 25
  · subst h25; exact tyOk25 h
  by_cases h26 : T = 26
  · subst h26; exact tyOk26 h
  by_cases h27 : T = 27
  · subst h27; exact tyOk27 h
  by_cases h28 : T = 28
  · subst h28; exact tyOk28 h
  by_cases h29 : T = 29
  · subst h29; exact tyOk29 h
  by_cases h30 : T = 30
  · subst h30; exact tyOk30 h
  by_cases h31 : T = 31
  · subst h31; exact tyOk31 h
  by_cases h33 : T = 33
  · subst h33; exact tyOk33 h
  by_cases h34 : T = 34
  · subst h34; exact tyOk34 h
  by_cases h36 : T = 36
  · subst h36; exact tyOk36 h
  by_cases h37 : T = 37
  · subst h37; exact tyOk37 h
  by_cases h38 : T = 38
  · subst h38; exact tyOk38 h
  by_cases h39 : T = 39
  · subst h39; exact tyOk39 h
  by_cases h40 : T = 40
  · subst h40; exact tyOk40 h
  by_cases h41 : T = 41
  · subst h41; exact tyOk41 h
  by_cases h42 : T = 42
  · subst h42; exact tyOk42 h
  by_cases h43 : T = 43
  · subst h43; exact tyOk43 h
  by_cases h44 : T = 44
  · subst h44; exact tyOk44 h
  by_cases h45 : T = 45
  · subst h45; exact tyOk45 h
  by_cases h46 : T = 46
  · subst h46; exact tyOk46 h
  by_cases h47 : T = 47
  · subst h47; exact tyOk47 h
  by_cases h48 : T = 48
  · subst h48; exact tyOk48 h
  by_cases h49 : T = 49
  · subst h49; exact tyOk49 h
  by_cases h50 : T = 50
  · subst h50; exact tyOk50 h
  by_cases h51 : T = 51
  · subst h51; exact tyOk51 h
  by_cases h52 : T = 52
  · subst h52; exact tyOk52 h
  by_cases h53 : T = 53
  · subst h53; exact tyOk53 h
  by_cases h54 : T = 54
  · subst h54; exact tyOk54 h
  by_cases h55 : T = 55
  · subst h55; exact tyOk55 h
  by_cases h56 : T = 56
  · subst h56; exact tyOk56 h
  by_cases h57 : T = 57
  · subst h57; exact tyOk57 h
  by_cases h58 : T = 58
  · subst h58; exact tyOk58 h
  by_cases h59 : T = 59
  · subst h59; exact tyOk59 h
  by_cases h60 : T = 60
  · subst h60; exact tyOk60 h
  by_cases h62 : T = 62
  · subst h62; exact tyOk62 h
  by_cases h63 : T = 63
  · subst h63; exact tyOk63 h
  by_cases h64 : T = 64
  · subst h64; exact tyOk64 h
  by_cases h65 : T = 65
  · subst h65; exact tyOk65 h
  by_cases h67 : T = 67
  · subst h67; exact tyOk67 h
  by_cases h68 : T = 68
  · subst h68; exact tyOk68 h
  by_cases h69 : T = 69
  · subst h69; exact tyOk69 h
  by_cases h70 : T = 70
  · subst h70; exact tyOk70 h
  by_cases h71 : T = 71
  · subst h71; exact tyOk71 h
  by_cases h72 : T = 72
  · subst h72; exact tyOk72 h
  by_cases h73 : T = 73
  · subst h73; exact tyOk73 h
  by_cases h74 : T = 74
  · subst h74; exact tyOk74 h
  by_cases h75 : T = 75
  · subst h75; exact tyOk75 h
  by_cases h76 : T = 76
  · subst h76; exact tyOk76 h
  by_cases h77 : T = 77
  · subst h77; exact tyOk77 h
  by_cases h78 : T = 78
  · subst h78; exact tyOk78 h
  by_cases h79 : T = 79
  · subst h79; exact tyOk79 h
  by_cases h80 : T = 80
  · subst h80; exact tyOk80 h
  by_cases h81 : T = 81
  · subst h81; exact tyOk81 h
  by_cases h82 : T = 82
  · subst h82; exact tyOk82 h
  by_cases h83 : T = 83
  · subst h83; exact tyOk83 h
  by_cases h84 : T = 84
  · subst h84; exact tyOk84 h
  by_cases h85 : T = 85
  · subst h85; exact tyOk85 h
  by_cases h86 : T = 86
  · subst h86; exact tyOk86 h
  by_cases h87 : T = 87
  · subst h87; exact tyOk87 h
  by_cases h88 : T = 88
  · subst h88; exact tyOk88 h
  by_cases h89 : T = 89
  · subst h89; exact tyOk89 h
  by_cases h90 : T = 90
  · subst h90; exact tyOk90 h
  by_cases h92 : T = 92
  · subst h92; exact tyOk92 h
  by_cases h93 : T = 93
  · subst h93; exact tyOk93 h
  by_cases h94 : T = 94
  · subst h94; exact tyOk94 h
  by_cases h95 : T = 95
  · subst h95; exact tyOk95 h
  by_cases h96 : T = 96
  · subst h96; exact tyOk96 h
  by_cases h97 : T = 97
  · subst h97; exact tyOk97 h
  by_cases h98 : T = 98
  · subst h98; exact tyOk98 h
  by_cases h99 : T = 99
  · subst h99; exact tyOk99 h
  by_cases h100 : T = 100
  · subst h100; exact tyOk100 h
  by_cases h101 : T = 101
  · subst h101; exact tyOk101 h
  by_cases h102 : T = 102
  · subst h102; exact tyOk102 h
  by_cases h103 : T = 103
  · subst h103; exact tyOk103 h
  by_cases h104 : T = 104
  · subst h104; exact tyOk104 h
  by_cases h105 : T = 105
  · subst h105; exact tyOk105 h
  by_cases h106 : T = 106
  · subst h106; exact tyOk106 h
  by_cases h107 : T = 107
  · subst h107; exact tyOk107 h
  by_cases h108 : T = 108
  · subst h108; exact tyOk108 h
  exfalso; unfold tyTab at h; split at h <;> first | contradiction | cases h

instance : Tab Try.prog := ⟨tyTab, tyTab_ok⟩

end Go.Sx
