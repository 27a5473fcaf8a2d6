/- The table of the program's types, by program (gentab.py), out of the loaded program's own facts. Conditions: none. -/
import Derived.Test.YtemhmmcakmidkaaSxd
import Derived.Test.YtemhmmcakmidkaaProg
namespace Go.Sx
open Go.Proofs

def tyTab : Nat → Option Ty
  | 2 => some ⟨(TypeDesc.int IntKind.i64), 1, 8, (Value.int IntKind.i64 0)⟩
  | 3 => some ⟨(TypeDesc.int IntKind.i64), 1, 8, (Value.int IntKind.i64 0)⟩
  | 4 => some ⟨TypeDesc.bool, 1, 1, (Value.bool false)⟩
  | 5 => some ⟨(TypeDesc.int IntKind.u8), 1, 1, (Value.int IntKind.u8 0)⟩
  | 6 => some ⟨(TypeDesc.int IntKind.u8), 1, 1, (Value.int IntKind.u8 0)⟩
  | 7 => some ⟨(TypeDesc.struct #[{ name := "x", type := 2, offset := 0, embedded := false, tag := "", pkgPath := "runtime", byteOffset := 0 }, { name := "y", type := 3, offset := 1, embedded := false, tag := "", pkgPath := "runtime", byteOffset := 8 }, { name := "signed", type := 4, offset := 2, embedded := false, tag := "", pkgPath := "runtime", byteOffset := 16 }, { name := "code", type := 6, offset := 3, embedded := false, tag := "", pkgPath := "runtime", byteOffset := 17 }]), 4, 24, (Value.agg #[Value.int IntKind.i64 0, Value.int IntKind.i64 0, Value.bool false, Value.int IntKind.u8 0])⟩
  | 8 => some ⟨(TypeDesc.struct #[{ name := "x", type := 2, offset := 0, embedded := false, tag := "", pkgPath := "runtime", byteOffset := 0 }, { name := "y", type := 3, offset := 1, embedded := false, tag := "", pkgPath := "runtime", byteOffset := 8 }, { name := "signed", type := 4, offset := 2, embedded := false, tag := "", pkgPath := "runtime", byteOffset := 16 }, { name := "code", type := 6, offset := 3, embedded := false, tag := "", pkgPath := "runtime", byteOffset := 17 }]), 4, 24, (Value.agg #[Value.int IntKind.i64 0, Value.int IntKind.i64 0, Value.bool false, Value.int IntKind.u8 0])⟩
  | 9 => some ⟨TypeDesc.string, 1, 16, (Value.string { data := #[] })⟩
  | 10 => some ⟨TypeDesc.string, 1, 16, (Value.string { data := #[] })⟩
  | 11 => some ⟨TypeDesc.string, 1, 16, (Value.string { data := #[] })⟩
  | 12 => some ⟨(TypeDesc.int IntKind.u64), 1, 8, (Value.int IntKind.u64 0)⟩
  | 13 => some ⟨(TypeDesc.struct #[{ name := "msg", type := 9, offset := 0, embedded := false, tag := "", pkgPath := "runtime", byteOffset := 0 }, { name := "addr", type := 12, offset := 1, embedded := false, tag := "", pkgPath := "runtime", byteOffset := 16 }]), 2, 24, (Value.agg #[Value.string { data := #[] }, Value.int IntKind.u64 0])⟩
  | 14 => some ⟨(TypeDesc.struct #[{ name := "msg", type := 9, offset := 0, embedded := false, tag := "", pkgPath := "runtime", byteOffset := 0 }, { name := "addr", type := 12, offset := 1, embedded := false, tag := "", pkgPath := "runtime", byteOffset := 16 }]), 2, 24, (Value.agg #[Value.string { data := #[] }, Value.int IntKind.u64 0])⟩
  | 21 => some ⟨(TypeDesc.int IntKind.i32), 1, 4, (Value.int IntKind.i32 0)⟩
  | 22 => some ⟨(TypeDesc.slice 3), 1, 24, (Value.slice none 0 0)⟩
  | 24 => some ⟨(TypeDesc.slice 37), 1, 24, (Value.slice none 0 0)⟩
  | 25 => some ⟨(TypeDesc.struct #[{ name := "IDs", type := 22, offset := 0, embedded := false, tag := "", pkgPath := "", byteOffset := 0 }, { name := "Ports", type := 24, offset := 1, embedded := false, tag := "", pkgPath := "", byteOffset := 24 }]), 2, 48, (Value.agg #[Value.slice none 0 0, Value.slice none 0 0])⟩
  | 26 => some ⟨(TypeDesc.struct #[{ name := "IDs", type := 22, offset := 0, embedded := false, tag := "", pkgPath := "", byteOffset := 0 }, { name := "Ports", type := 24, offset := 1, embedded := false, tag := "", pkgPath := "", byteOffset := 24 }]), 2, 48, (Value.agg #[Value.slice none 0 0, Value.slice none 0 0])⟩
  | 27 => some ⟨(TypeDesc.int IntKind.i64), 1, 8, (Value.int IntKind.i64 0)⟩
  | 37 => some ⟨(TypeDesc.slice 39), 1, 24, (Value.slice none 0 0)⟩
  | 38 => some ⟨(TypeDesc.struct #[{ name := "To", type := 3, offset := 0, embedded := false, tag := "", pkgPath := "", byteOffset := 0 }, { name := "Weight", type := 3, offset := 1, embedded := false, tag := "", pkgPath := "", byteOffset := 8 }]), 2, 16, (Value.agg #[Value.int IntKind.i64 0, Value.int IntKind.i64 0])⟩
  | 39 => some ⟨(TypeDesc.struct #[{ name := "To", type := 3, offset := 0, embedded := false, tag := "", pkgPath := "", byteOffset := 0 }, { name := "Weight", type := 3, offset := 1, embedded := false, tag := "", pkgPath := "", byteOffset := 8 }]), 2, 16, (Value.agg #[Value.int IntKind.i64 0, Value.int IntKind.i64 0])⟩
  | 47 => some ⟨(TypeDesc.int IntKind.u32), 1, 4, (Value.int IntKind.u32 0)⟩
  | 69 => some ⟨(TypeDesc.int IntKind.u64), 1, 8, (Value.int IntKind.u64 0)⟩
  | 75 => some ⟨(TypeDesc.array 2 3), 2, 16, (Value.agg #[Value.int IntKind.i64 0, Value.int IntKind.i64 0])⟩
  | 76 => some ⟨(TypeDesc.array 2 75), 4, 32, (Value.agg #[Value.int IntKind.i64 0, Value.int IntKind.i64 0, Value.int IntKind.i64 0, Value.int IntKind.i64 0])⟩
  | 83 => some ⟨(TypeDesc.slice 4), 1, 24, (Value.slice none 0 0)⟩
  | 84 => some ⟨(TypeDesc.array 256 4), 256, 256, (Value.agg (([Value.bool false, Value.bool false, Value.bool false, Value.bool false, Value.bool false, Value.bool false, Value.bool false, Value.bool false, Value.bool false, Value.bool false, Value.bool false, Value.bool false, Value.bool false, Value.bool false, Value.bool false, Value.bool false, Value.bool false, Value.bool false, Value.bool false, Value.bool false, Value.bool false, Value.bool false, Value.bool false, Value.bool false, Value.bool false, Value.bool false, Value.bool false, Value.bool false, Value.bool false, Value.bool false, Value.bool false, Value.bool false, Value.bool false, Value.bool false, Value.bool false, Value.bool false, Value.bool false, Value.bool false, Value.bool false, Value.bool false, Value.bool false, Value.bool false, Value.bool false, Value.bool false, Value.bool false, Value.bool false, Value.bool false, Value.bool false, Value.bool false, Value.bool false, Value.bool false, Value.bool false, Value.bool false, Value.bool false, Value.bool false, Value.bool false, Value.bool false, Value.bool false, Value.bool false, Value.bool false, Value.bool false, Value.bool false, Value.bool false, Value.bool false].append [Value.bool false, Value.bool false, Value.bool false, Value.bool false, Value.bool false, Value.bool false, Value.bool false, Value.bool false, Value.bool false, Value.bool false, Value.bool false, Value.bool false, Value.bool false, Value.bool false, Value.bool false, Value.bool false, Value.bool false, Value.bool false, Value.bool false, Value.bool false, Value.bool false, Value.bool false, Value.bool false, Value.bool false, Value.bool false, Value.bool false, Value.bool false, Value.bool false, Value.bool false, Value.bool false, Value.bool false, Value.bool false, Value.bool false, Value.bool false, Value.bool false, Value.bool false, Value.bool false, Value.bool false, Value.bool false, Value.bool false, Value.bool false, Value.bool false, Value.bool false, Value.bool false, Value.bool false, Value.bool false, Value.bool false, Value.bool false, Value.bool false, Value.bool false, Value.bool false, Value.bool false, Value.bool false, Value.bool false, Value.bool false, Value.bool false, Value.bool false, Value.bool false, Value.bool false, Value.bool false, Value.bool false, Value.bool false, Value.bool false, Value.bool false]).append ([Value.bool false, Value.bool false, Value.bool false, Value.bool false, Value.bool false, Value.bool false, Value.bool false, Value.bool false, Value.bool false, Value.bool false, Value.bool false, Value.bool false, Value.bool false, Value.bool false, Value.bool false, Value.bool false, Value.bool false, Value.bool false, Value.bool false, Value.bool false, Value.bool false, Value.bool false, Value.bool false, Value.bool false, Value.bool false, Value.bool false, Value.bool false, Value.bool false, Value.bool false, Value.bool false, Value.bool false, Value.bool false, Value.bool false, Value.bool false, Value.bool false, Value.bool false, Value.bool false, Value.bool false, Value.bool false, Value.bool false, Value.bool false, Value.bool false, Value.bool false, Value.bool false, Value.bool false, Value.bool false, Value.bool false, Value.bool false, Value.bool false, Value.bool false, Value.bool false, Value.bool false, Value.bool false, Value.bool false, Value.bool false, Value.bool false, Value.bool false, Value.bool false, Value.bool false, Value.bool false, Value.bool false, Value.bool false, Value.bool false, Value.bool false].append [Value.bool false, Value.bool false, Value.bool false, Value.bool false, Value.bool false, Value.bool false, Value.bool false, Value.bool false, Value.bool false, Value.bool false, Value.bool false, Value.bool false, Value.bool false, Value.bool false, Value.bool false, Value.bool false, Value.bool false, Value.bool false, Value.bool false, Value.bool false, Value.bool false, Value.bool false, Value.bool false, Value.bool false, Value.bool false, Value.bool false, Value.bool false, Value.bool false, Value.bool false, Value.bool false, Value.bool false, Value.bool false, Value.bool false, Value.bool false, Value.bool false, Value.bool false, Value.bool false, Value.bool false, Value.bool false, Value.bool false, Value.bool false, Value.bool false, Value.bool false, Value.bool false, Value.bool false, Value.bool false, Value.bool false, Value.bool false, Value.bool false, Value.bool false, Value.bool false, Value.bool false, Value.bool false, Value.bool false, Value.bool false, Value.bool false, Value.bool false, Value.bool false, Value.bool false, Value.bool false, Value.bool false, Value.bool false, Value.bool false, Value.bool false])).toArray)⟩
  | 85 => some ⟨(TypeDesc.map 75 3), 1, 8, (Value.map none)⟩
  | 88 => some ⟨(TypeDesc.struct #[{ name := "_interface", type := 17, offset := 0, embedded := false, tag := "", pkgPath := "runtime", byteOffset := 0 }, { name := "concrete", type := 17, offset := 1, embedded := false, tag := "", pkgPath := "runtime", byteOffset := 8 }, { name := "asserted", type := 17, offset := 2, embedded := false, tag := "", pkgPath := "runtime", byteOffset := 16 }, { name := "missingMethod", type := 9, offset := 3, embedded := false, tag := "", pkgPath := "runtime", byteOffset := 24 }]), 4, 40, (Value.agg #[Value.pointer none, Value.pointer none, Value.pointer none, Value.string { data := #[] }])⟩
  | 89 => some ⟨(TypeDesc.struct #[{ name := "_interface", type := 17, offset := 0, embedded := false, tag := "", pkgPath := "runtime", byteOffset := 0 }, { name := "concrete", type := 17, offset := 1, embedded := false, tag := "", pkgPath := "runtime", byteOffset := 8 }, { name := "asserted", type := 17, offset := 2, embedded := false, tag := "", pkgPath := "runtime", byteOffset := 16 }, { name := "missingMethod", type := 9, offset := 3, embedded := false, tag := "", pkgPath := "runtime", byteOffset := 24 }]), 4, 40, (Value.agg #[Value.pointer none, Value.pointer none, Value.pointer none, Value.string { data := #[] }])⟩
  | 90 => some ⟨(TypeDesc.array 0 16), 0, 0, (Value.agg #[])⟩
  | 91 => some ⟨(TypeDesc.struct #[{ name := "_", type := 90, offset := 0, embedded := false, tag := "", pkgPath := "runtime", byteOffset := 0 }]), 0, 0, (Value.agg #[])⟩
  | 92 => some ⟨(TypeDesc.struct #[{ name := "_", type := 90, offset := 0, embedded := false, tag := "", pkgPath := "runtime", byteOffset := 0 }]), 0, 0, (Value.agg #[])⟩
  | 94 => some ⟨(TypeDesc.int IntKind.u8), 1, 1, (Value.int IntKind.u8 0)⟩
  | 95 => some ⟨(TypeDesc.int IntKind.u8), 1, 1, (Value.int IntKind.u8 0)⟩
  | 98 => some ⟨(TypeDesc.int IntKind.i32), 1, 4, (Value.int IntKind.i32 0)⟩
  | 99 => some ⟨(TypeDesc.int IntKind.i32), 1, 4, (Value.int IntKind.i32 0)⟩
  | 100 => some ⟨(TypeDesc.struct #[{ name := "Size_", type := 12, offset := 0, embedded := false, tag := "", pkgPath := "", byteOffset := 0 }, { name := "PtrBytes", type := 12, offset := 1, embedded := false, tag := "", pkgPath := "", byteOffset := 8 }, { name := "Hash", type := 47, offset := 2, embedded := false, tag := "", pkgPath := "", byteOffset := 16 }, { name := "TFlag", type := 94, offset := 3, embedded := false, tag := "", pkgPath := "", byteOffset := 20 }, { name := "Align_", type := 5, offset := 4, embedded := false, tag := "", pkgPath := "", byteOffset := 21 }, { name := "FieldAlign_", type := 5, offset := 5, embedded := false, tag := "", pkgPath := "", byteOffset := 22 }, { name := "Kind_", type := 95, offset := 6, embedded := false, tag := "", pkgPath := "", byteOffset := 23 }, { name := "Equal", type := 96, offset := 7, embedded := false, tag := "", pkgPath := "", byteOffset := 24 }, { name := "GCData", type := 97, offset := 8, embedded := false, tag := "", pkgPath := "", byteOffset := 32 }, { name := "Str", type := 98, offset := 9, embedded := false, tag := "", pkgPath := "", byteOffset := 40 }, { name := "PtrToThis", type := 99, offset := 10, embedded := false, tag := "", pkgPath := "", byteOffset := 44 }]), 11, 48, (Value.agg #[Value.int IntKind.u64 0, Value.int IntKind.u64 0, Value.int IntKind.u32 0, Value.int IntKind.u8 0, Value.int IntKind.u8 0, Value.int IntKind.u8 0, Value.int IntKind.u8 0, Value.nilFunc, Value.pointer none, Value.int IntKind.i32 0, Value.int IntKind.i32 0])⟩
  | 101 => some ⟨(TypeDesc.struct #[{ name := "Size_", type := 12, offset := 0, embedded := false, tag := "", pkgPath := "", byteOffset := 0 }, { name := "PtrBytes", type := 12, offset := 1, embedded := false, tag := "", pkgPath := "", byteOffset := 8 }, { name := "Hash", type := 47, offset := 2, embedded := false, tag := "", pkgPath := "", byteOffset := 16 }, { name := "TFlag", type := 94, offset := 3, embedded := false, tag := "", pkgPath := "", byteOffset := 20 }, { name := "Align_", type := 5, offset := 4, embedded := false, tag := "", pkgPath := "", byteOffset := 21 }, { name := "FieldAlign_", type := 5, offset := 5, embedded := false, tag := "", pkgPath := "", byteOffset := 22 }, { name := "Kind_", type := 95, offset := 6, embedded := false, tag := "", pkgPath := "", byteOffset := 23 }, { name := "Equal", type := 96, offset := 7, embedded := false, tag := "", pkgPath := "", byteOffset := 24 }, { name := "GCData", type := 97, offset := 8, embedded := false, tag := "", pkgPath := "", byteOffset := 32 }, { name := "Str", type := 98, offset := 9, embedded := false, tag := "", pkgPath := "", byteOffset := 40 }, { name := "PtrToThis", type := 99, offset := 10, embedded := false, tag := "", pkgPath := "", byteOffset := 44 }]), 11, 48, (Value.agg #[Value.int IntKind.u64 0, Value.int IntKind.u64 0, Value.int IntKind.u32 0, Value.int IntKind.u8 0, Value.int IntKind.u8 0, Value.int IntKind.u8 0, Value.int IntKind.u8 0, Value.nilFunc, Value.pointer none, Value.int IntKind.i32 0, Value.int IntKind.i32 0])⟩
  | 102 => some ⟨TypeDesc.unsafePointer, 1, 8, (Value.pointer none)⟩
  | _ => none

theorem tyOk2 {d : Ty} (h : tyTab 2 = some d) : TyOk Try.prog 2 d := by
  cases h; exact ⟨Try.underlying2, Try.t2, Try.type2, rfl, rfl, rfl⟩
theorem tyOk3 {d : Ty} (h : tyTab 3 = some d) : TyOk Try.prog 3 d := by
  cases h; exact ⟨Try.underlying3, Try.t3, Try.type3, rfl, rfl, rfl⟩
theorem tyOk4 {d : Ty} (h : tyTab 4 = some d) : TyOk Try.prog 4 d := by
  cases h; exact ⟨Try.underlying4, Try.t4, Try.type4, rfl, rfl, rfl⟩
theorem tyOk5 {d : Ty} (h : tyTab 5 = some d) : TyOk Try.prog 5 d := by
  cases h; exact ⟨Try.underlying5, Try.t5, Try.type5, rfl, rfl, rfl⟩
theorem tyOk6 {d : Ty} (h : tyTab 6 = some d) : TyOk Try.prog 6 d := by
  cases h; exact ⟨Try.underlying6, Try.t6, Try.type6, rfl, rfl, rfl⟩
theorem tyOk7 {d : Ty} (h : tyTab 7 = some d) : TyOk Try.prog 7 d := by
  cases h; exact ⟨Try.underlying7, Try.t7, Try.type7, rfl, rfl, rfl⟩
theorem tyOk8 {d : Ty} (h : tyTab 8 = some d) : TyOk Try.prog 8 d := by
  cases h; exact ⟨Try.underlying8, Try.t8, Try.type8, rfl, rfl, rfl⟩
theorem tyOk9 {d : Ty} (h : tyTab 9 = some d) : TyOk Try.prog 9 d := by
  cases h; exact ⟨Try.underlying9, Try.t9, Try.type9, rfl, rfl, rfl⟩
theorem tyOk10 {d : Ty} (h : tyTab 10 = some d) : TyOk Try.prog 10 d := by
  cases h; exact ⟨Try.underlying10, Try.t10, Try.type10, rfl, rfl, rfl⟩
theorem tyOk11 {d : Ty} (h : tyTab 11 = some d) : TyOk Try.prog 11 d := by
  cases h; exact ⟨Try.underlying11, Try.t11, Try.type11, rfl, rfl, rfl⟩
theorem tyOk12 {d : Ty} (h : tyTab 12 = some d) : TyOk Try.prog 12 d := by
  cases h; exact ⟨Try.underlying12, Try.t12, Try.type12, rfl, rfl, rfl⟩
theorem tyOk13 {d : Ty} (h : tyTab 13 = some d) : TyOk Try.prog 13 d := by
  cases h; exact ⟨Try.underlying13, Try.t13, Try.type13, rfl, rfl, rfl⟩
theorem tyOk14 {d : Ty} (h : tyTab 14 = some d) : TyOk Try.prog 14 d := by
  cases h; exact ⟨Try.underlying14, Try.t14, Try.type14, rfl, rfl, rfl⟩
theorem tyOk21 {d : Ty} (h : tyTab 21 = some d) : TyOk Try.prog 21 d := by
  cases h; exact ⟨Try.underlying21, Try.t21, Try.type21, rfl, rfl, rfl⟩
theorem tyOk22 {d : Ty} (h : tyTab 22 = some d) : TyOk Try.prog 22 d := by
  cases h; exact ⟨Try.underlying22, Try.t22, Try.type22, rfl, rfl, rfl⟩
theorem tyOk24 {d : Ty} (h : tyTab 24 = some d) : TyOk Try.prog 24 d := by
  cases h; exact ⟨Try.underlying24, Try.t24, Try.type24, rfl, rfl, rfl⟩
theorem tyOk25 {d : Ty} (h : tyTab 25 = some d) : TyOk Try.prog 25 d := by
  cases h; exact ⟨Try.underlying25, Try.t25, Try.type25, rfl, rfl, rfl⟩
theorem tyOk26 {d : Ty} (h : tyTab 26 = some d) : TyOk Try.prog 26 d := by
  cases h; exact ⟨Try.underlying26, Try.t26, Try.type26, rfl, rfl, rfl⟩
theorem tyOk27 {d : Ty} (h : tyTab 27 = some d) : TyOk Try.prog 27 d := by
  cases h; exact ⟨Try.underlying27, Try.t27, Try.type27, rfl, rfl, rfl⟩
theorem tyOk37 {d : Ty} (h : tyTab 37 = some d) : TyOk Try.prog 37 d := by
  cases h; exact ⟨Try.underlying37, Try.t37, Try.type37, rfl, rfl, rfl⟩
theorem tyOk38 {d : Ty} (h : tyTab 38 = some d) : TyOk Try.prog 38 d := by
  cases h; exact ⟨Try.underlying38, Try.t38, Try.type38, rfl, rfl, rfl⟩
theorem tyOk39 {d : Ty} (h : tyTab 39 = some d) : TyOk Try.prog 39 d := by
  cases h; exact ⟨Try.underlying39, Try.t39, Try.type39, rfl, rfl, rfl⟩
theorem tyOk47 {d : Ty} (h : tyTab 47 = some d) : TyOk Try.prog 47 d := by
  cases h; exact ⟨Try.underlying47, Try.t47, Try.type47, rfl, rfl, rfl⟩
theorem tyOk69 {d : Ty} (h : tyTab 69 = some d) : TyOk Try.prog 69 d := by
  cases h; exact ⟨Try.underlying69, Try.t69, Try.type69, rfl, rfl, rfl⟩
theorem tyOk75 {d : Ty} (h : tyTab 75 = some d) : TyOk Try.prog 75 d := by
  cases h; exact ⟨Try.underlying75, Try.t75, Try.type75, rfl, rfl, rfl⟩
theorem tyOk76 {d : Ty} (h : tyTab 76 = some d) : TyOk Try.prog 76 d := by
  cases h; exact ⟨Try.underlying76, Try.t76, Try.type76, rfl, rfl, rfl⟩
theorem tyOk83 {d : Ty} (h : tyTab 83 = some d) : TyOk Try.prog 83 d := by
  cases h; exact ⟨Try.underlying83, Try.t83, Try.type83, rfl, rfl, rfl⟩
theorem tyOk84 {d : Ty} (h : tyTab 84 = some d) : TyOk Try.prog 84 d := by
  cases h; exact ⟨Try.underlying84, Try.t84, Try.type84, rfl, rfl, rfl⟩
theorem tyOk85 {d : Ty} (h : tyTab 85 = some d) : TyOk Try.prog 85 d := by
  cases h; exact ⟨Try.underlying85, Try.t85, Try.type85, rfl, rfl, rfl⟩
theorem tyOk88 {d : Ty} (h : tyTab 88 = some d) : TyOk Try.prog 88 d := by
  cases h; exact ⟨Try.underlying88, Try.t88, Try.type88, rfl, rfl, rfl⟩
theorem tyOk89 {d : Ty} (h : tyTab 89 = some d) : TyOk Try.prog 89 d := by
  cases h; exact ⟨Try.underlying89, Try.t89, Try.type89, rfl, rfl, rfl⟩
theorem tyOk90 {d : Ty} (h : tyTab 90 = some d) : TyOk Try.prog 90 d := by
  cases h; exact ⟨Try.underlying90, Try.t90, Try.type90, rfl, rfl, rfl⟩
theorem tyOk91 {d : Ty} (h : tyTab 91 = some d) : TyOk Try.prog 91 d := by
  cases h; exact ⟨Try.underlying91, Try.t91, Try.type91, rfl, rfl, rfl⟩
theorem tyOk92 {d : Ty} (h : tyTab 92 = some d) : TyOk Try.prog 92 d := by
  cases h; exact ⟨Try.underlying92, Try.t92, Try.type92, rfl, rfl, rfl⟩
theorem tyOk94 {d : Ty} (h : tyTab 94 = some d) : TyOk Try.prog 94 d := by
  cases h; exact ⟨Try.underlying94, Try.t94, Try.type94, rfl, rfl, rfl⟩
theorem tyOk95 {d : Ty} (h : tyTab 95 = some d) : TyOk Try.prog 95 d := by
  cases h; exact ⟨Try.underlying95, Try.t95, Try.type95, rfl, rfl, rfl⟩
theorem tyOk98 {d : Ty} (h : tyTab 98 = some d) : TyOk Try.prog 98 d := by
  cases h; exact ⟨Try.underlying98, Try.t98, Try.type98, rfl, rfl, rfl⟩
theorem tyOk99 {d : Ty} (h : tyTab 99 = some d) : TyOk Try.prog 99 d := by
  cases h; exact ⟨Try.underlying99, Try.t99, Try.type99, rfl, rfl, rfl⟩
theorem tyOk100 {d : Ty} (h : tyTab 100 = some d) : TyOk Try.prog 100 d := by
  cases h; exact ⟨Try.underlying100, Try.t100, Try.type100, rfl, rfl, rfl⟩
theorem tyOk101 {d : Ty} (h : tyTab 101 = some d) : TyOk Try.prog 101 d := by
  cases h; exact ⟨Try.underlying101, Try.t101, Try.type101, rfl, rfl, rfl⟩
theorem tyOk102 {d : Ty} (h : tyTab 102 = some d) : TyOk Try.prog 102 d := by
  cases h; exact ⟨Try.underlying102, Try.t102, Try.type102, rfl, rfl, rfl⟩

theorem tyTab_ok {T : Nat} {d : Ty} (h : tyTab T = some d) : TyOk Try.prog T d := by
  by_cases h2 : T = 2
  · subst h2; exact tyOk2 h
  by_cases h3 : T = 3
  · subst h3; exact tyOk3 h
  by_cases h4 : T = 4
  · subst h4; exact tyOk4 h
  by_cases h5 : T = 5
  · subst h5; exact tyOk5 h
  by_cases h6 : T = 6
  · subst h6; exact tyOk6 h
  by_cases h7 : T = 7
  · subst h7; exact tyOk7 h
  by_cases h8 : T = 8
  · subst h8; exact tyOk8 h
  by_cases h9 : T = 9
  · subst h9; exact tyOk9 h
  by_cases h10 : T = 10
  · subst h10; exact tyOk10 h
  by_cases h11 : T = 11
  · subst h11; exact tyOk11 h
  by_cases h12 : T = 12
  · subst h12; exact tyOk12 h
  by_cases h13 : T = 13
  · subst h13; exact tyOk13 h
  by_cases h14 : T = 14
  · subst h14; exact tyOk14 h
  by_cases h21 : T = 21
  · subst h21; exact tyOk21 h
  by_cases h22 : T = 22
  · subst h22; exact tyOk22 h
  by_cases h24 : T = 24
  · subst h24; exact tyOk24 h
  by_cases h25 : T = 25
  · subst h25; exact tyOk25 h
  by_cases h26 : T = 26
  · subst h26; exact tyOk26 h
  by_cases h27 : T = 27
  · subst h27; exact tyOk27 h
  by_cases h37 : T = 37
  · subst h37; exact tyOk37 h
  by_cases h38 : T = 38
  · subst h38; exact tyOk38 h
  by_cases h39 : T = 39
  · subst h39; exact tyOk39 h
  by_cases h47 : T = 47
  · subst h47; exact tyOk47 h
  by_cases h69 : T = 69
  · subst h69; exact tyOk69 h
  by_cases h75 : T = 75
  · subst h75; exact tyOk75 h
  by_cases h76 : T = 76
  · subst h76; exact tyOk76 h
  by_cases h83 : T = 83
  · subst h83; exact tyOk83 h
  by_cases h84 : T = 84
  · subst h84; exact tyOk84 h
  by_cases h85 : T = 85
  · subst h85; exact tyOk85 h
  by_cases h88 : T = 88
  · subst h88; exact tyOk88 h
  by_cases h89 : T = 89
  · subst h89; exact tyOk89 h
  by_cases h90 : T = 90
  · subst h90; exact tyOk90 h
  by_cases h91 : T = 91
  · subst h91; exact tyOk91 h
  by_cases h92 : T = 92
  · subst h92; exact tyOk92 h
  by_cases h94 : T = 94
  · subst h94; exact tyOk94 h
  by_cases h95 : T = 95
  · subst h95; exact tyOk95 h
  by_cases h98 : T = 98
  · subst h98; exact tyOk98 h
  by_cases h99 : T = 99
  · subst h99; exact tyOk99 h
  by_cases h100 : T = 100
  · subst h100; exact tyOk100 h
  by_cases h101 : T = 101
  · subst h101; exact tyOk101 h
  by_cases h102 : T = 102
  · subst h102; exact tyOk102 h
  exfalso; unfold tyTab at h; split at h <;> first | contradiction | cases h

instance : Tab Try.prog := ⟨tyTab, tyTab_ok⟩

end Go.Sx
