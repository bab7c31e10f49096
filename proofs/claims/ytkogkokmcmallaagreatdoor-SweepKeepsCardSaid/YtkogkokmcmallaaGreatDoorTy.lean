/- The seat's closed facts: sizes and zeros of types, entries of functions. Written by a program (mkty.py). -/
import Derived.Test.YtkogkokmcmallaaGreatDoorZb
import Derived.Test.YtkogkokmcmallaaGreatDoorProg
namespace Go.Proofs.YtkogkokmcmallaaGreatDoor
set_option linter.all false
open Go.RowKit
theorem sz2 : (Tryz.prog.info? 2).map (·.size) = some 1 := by kernel_rfl
theorem in3 : (Tryz.prog.info? 3).map (fun i => (i.zero, i.size, i.bytes)) = some (some (.int .i64 0), 1, 8) := by kernel_rfl
theorem sz3 : (Tryz.prog.info? 3).map (·.size) = some 1 := by kernel_rfl
theorem ze3 : (Tryz.prog.info? 3).map (·.zero) = some (some (.int .i64 0)) := by kernel_rfl
theorem zs3 : (Tryz.prog.info? 3).map (fun i => (i.zero, i.size)) = some (some (.int .i64 0), 1) := by kernel_rfl
theorem in5 : (Tryz.prog.info? 5).map (fun i => (i.zero, i.size, i.bytes)) = some (some (.int .u8 0), 1, 1) := by kernel_rfl
theorem sz5 : (Tryz.prog.info? 5).map (·.size) = some 1 := by kernel_rfl
theorem in9 : (Tryz.prog.info? 9).map (fun i => (i.zero, i.size, i.bytes)) = some (some (.string ByteArray.empty), 1, 16) := by kernel_rfl
theorem sz9 : (Tryz.prog.info? 9).map (·.size) = some 1 := by kernel_rfl
theorem zs9 : (Tryz.prog.info? 9).map (fun i => (i.zero, i.size)) = some (some (.string ByteArray.empty), 1) := by kernel_rfl
theorem sz22 : (Tryz.prog.info? 22).map (·.size) = some 1 := by kernel_rfl
theorem ze22 : (Tryz.prog.info? 22).map (·.zero) = some (some (.slice none 0 0)) := by kernel_rfl
theorem sz26 : (Tryz.prog.info? 26).map (·.size) = some 1 := by kernel_rfl
theorem sz33 : (Tryz.prog.info? 33).map (·.size) = some 1 := by kernel_rfl
theorem sz34 : (Tryz.prog.info? 34).map (·.size) = some 1 := by kernel_rfl
theorem sz36 : (Tryz.prog.info? 36).map (·.size) = some 6 := by kernel_rfl
theorem ze36 : (Tryz.prog.info? 36).map (·.zero) = some (some (.agg #[.int .i64 0, .int .i64 0, .int .i64 0, .int .i64 0, .slice none 0 0, .slice none 0 0])) := by kernel_rfl
theorem pl36 (w : World) : ((#[{ name := "ID", type := 3, offset := 0, embedded := false, tag := "", pkgPath := "", byteOffset := 0 }, { name := "Base", type := 2, offset := 1, embedded := false, tag := "", pkgPath := "", byteOffset := 8 }, { name := "End", type := 2, offset := 2, embedded := false, tag := "", pkgPath := "", byteOffset := 16 }, { name := "Time", type := 2, offset := 3, embedded := false, tag := "", pkgPath := "", byteOffset := 24 }, { name := "Epochs", type := 33, offset := 4, embedded := false, tag := "", pkgPath := "", byteOffset := 32 }, { name := "Objects", type := 34, offset := 5, embedded := false, tag := "", pkgPath := "", byteOffset := 56 }] : Array Field).mapM (m := Sem) fun f => do pure (f.offset, ← sizeOf f.type)).run Tryz.prog w = .ok #[(0, 1), (1, 1), (2, 1), (3, 1), (4, 1), (5, 1)] w := by kernel_rfl
theorem sz39 : (Tryz.prog.info? 39).map (·.size) = some 1 := by kernel_rfl
theorem ze39 : (Tryz.prog.info? 39).map (·.zero) = some (some (.int .u32 0)) := by kernel_rfl
theorem in41 : (Tryz.prog.info? 41).map (fun i => (i.zero, i.size, i.bytes)) = some (some (.agg #[.string ByteArray.empty, .int .i64 0, .int .u32 0]), 3, 32) := by kernel_rfl
theorem sz41 : (Tryz.prog.info? 41).map (·.size) = some 3 := by kernel_rfl
theorem ze41 : (Tryz.prog.info? 41).map (·.zero) = some (some (.agg #[.string ByteArray.empty, .int .i64 0, .int .u32 0])) := by kernel_rfl
theorem pl41 (w : World) : ((#[{ name := "Name", type := 9, offset := 0, embedded := false, tag := "", pkgPath := "", byteOffset := 0 }, { name := "Len", type := 3, offset := 1, embedded := false, tag := "", pkgPath := "", byteOffset := 16 }, { name := "Sum", type := 39, offset := 2, embedded := false, tag := "", pkgPath := "", byteOffset := 24 }] : Array Field).mapM (m := Sem) fun f => do pure (f.offset, ← sizeOf f.type)).run Tryz.prog w = .ok #[(0, 1), (1, 1), (2, 1)] w := by kernel_rfl
theorem sz48 : (Tryz.prog.info? 48).map (·.size) = some 1 := by kernel_rfl
theorem ze48 : (Tryz.prog.info? 48).map (·.zero) = some (some (.slice none 0 0)) := by kernel_rfl
theorem ze63 : (Tryz.prog.info? 63).map (·.zero) = some (some (.agg #[.int .i64 0, .int .i64 0, .int .i64 0, .int .i64 0, .int .i64 0, .slice none 0 0, .slice none 0 0])) := by kernel_rfl
theorem pl63 (w : World) : ((#[{ name := "Kind", type := 3, offset := 0, embedded := false, tag := "", pkgPath := "", byteOffset := 0 }, { name := "M", type := 36, offset := 1, embedded := false, tag := "", pkgPath := "", byteOffset := 8 }] : Array Field).mapM (m := Sem) fun f => do pure (f.offset, ← sizeOf f.type)).run Tryz.prog w = .ok #[(0, 1), (1, 6)] w := by kernel_rfl
theorem sz64 : (Tryz.prog.info? 64).map (·.size) = some 1 := by kernel_rfl
theorem ze64 : (Tryz.prog.info? 64).map (·.zero) = some (some (.slice none 0 0)) := by kernel_rfl
theorem zs64 : (Tryz.prog.info? 64).map (fun i => (i.zero, i.size)) = some (some (.slice none 0 0), 1) := by kernel_rfl
theorem sz79 : (Tryz.prog.info? 79).map (·.size) = some 3 := by kernel_rfl
theorem ze79 : (Tryz.prog.info? 79).map (·.zero) = some (some (.agg #[.int .i64 0, .bool false, .int .i64 0])) := by kernel_rfl
theorem pl79 (w : World) : ((#[{ name := "Code", type := 3, offset := 0, embedded := false, tag := "", pkgPath := "", byteOffset := 0 }, { name := "Placed", type := 4, offset := 1, embedded := false, tag := "", pkgPath := "", byteOffset := 8 }, { name := "Pos", type := 3, offset := 2, embedded := false, tag := "", pkgPath := "", byteOffset := 16 }] : Array Field).mapM (m := Sem) fun f => do pure (f.offset, ← sizeOf f.type)).run Tryz.prog w = .ok #[(0, 1), (1, 1), (2, 1)] w := by kernel_rfl
theorem sz132 : (Tryz.prog.info? 132).map (·.size) = some 1 := by kernel_rfl
theorem sz133 : (Tryz.prog.info? 133).map (·.size) = some 1 := by kernel_rfl
theorem ze135 : (Tryz.prog.info? 135).map (·.zero) = some (some (.agg #[.map none, .map none, .int .i64 0, .slice none 0 0, .int .i64 0, .int .i64 0])) := by kernel_rfl
theorem pl135 (w : World) : ((#[{ name := "objects", type := 132, offset := 0, embedded := false, tag := "", pkgPath := "cordwood/store", byteOffset := 0 }, { name := "uploads", type := 133, offset := 1, embedded := false, tag := "", pkgPath := "cordwood/store", byteOffset := 8 }, { name := "ids", type := 3, offset := 2, embedded := false, tag := "", pkgPath := "cordwood/store", byteOffset := 16 }, { name := "script", type := 22, offset := 3, embedded := false, tag := "", pkgPath := "cordwood/store", byteOffset := 24 }, { name := "calls", type := 3, offset := 4, embedded := false, tag := "", pkgPath := "cordwood/store", byteOffset := 48 }, { name := "failed", type := 3, offset := 5, embedded := false, tag := "", pkgPath := "cordwood/store", byteOffset := 56 }] : Array Field).mapM (m := Sem) fun f => do pure (f.offset, ← sizeOf f.type)).run Tryz.prog w = .ok #[(0, 1), (1, 1), (2, 1), (3, 1), (4, 1), (5, 1)] w := by kernel_rfl
theorem ze137 : (Tryz.prog.info? 137).map (·.zero) = some (some (.agg #[.pointer none, .int .i64 0, .int .i64 0])) := by kernel_rfl
theorem pl137 (w : World) : ((#[{ name := "s", type := 26, offset := 0, embedded := false, tag := "", pkgPath := "cordwood/call", byteOffset := 0 }, { name := "tries", type := 3, offset := 1, embedded := false, tag := "", pkgPath := "cordwood/call", byteOffset := 8 }, { name := "asked", type := 3, offset := 2, embedded := false, tag := "", pkgPath := "cordwood/call", byteOffset := 16 }] : Array Field).mapM (m := Sem) fun f => do pure (f.offset, ← sizeOf f.type)).run Tryz.prog w = .ok #[(0, 1), (1, 1), (2, 1)] w := by kernel_rfl
theorem in141 : (Tryz.prog.info? 141).map (fun i => (i.zero, i.size, i.bytes)) = some (some (.agg #[.int .i64 0, .int .i64 0]), 2, 16) := by kernel_rfl
theorem sz141 : (Tryz.prog.info? 141).map (·.size) = some 2 := by kernel_rfl
theorem ze141 : (Tryz.prog.info? 141).map (·.zero) = some (some (.agg #[.int .i64 0, .int .i64 0])) := by kernel_rfl
theorem pl141 (w : World) : ((#[{ name := "Epoch", type := 3, offset := 0, embedded := false, tag := "", pkgPath := "", byteOffset := 0 }, { name := "Start", type := 2, offset := 1, embedded := false, tag := "", pkgPath := "", byteOffset := 8 }] : Array Field).mapM (m := Sem) fun f => do pure (f.offset, ← sizeOf f.type)).run Tryz.prog w = .ok #[(0, 1), (1, 1)] w := by kernel_rfl
theorem ze145 : (Tryz.prog.info? 145).map (·.zero) = some (some (.pointer none)) := by kernel_rfl
theorem sz146 : (Tryz.prog.info? 146).map (·.size) = some 1 := by kernel_rfl
theorem ze148 : (Tryz.prog.info? 148).map (·.zero) = some (some (.agg #[.string ByteArray.empty, .map none])) := by kernel_rfl
theorem pl148 (w : World) : ((#[{ name := "name", type := 9, offset := 0, embedded := false, tag := "", pkgPath := "cordwood/store", byteOffset := 0 }, { name := "parts", type := 146, offset := 1, embedded := false, tag := "", pkgPath := "cordwood/store", byteOffset := 16 }] : Array Field).mapM (m := Sem) fun f => do pure (f.offset, ← sizeOf f.type)).run Tryz.prog w = .ok #[(0, 1), (1, 1)] w := by kernel_rfl
theorem sz160 : (Tryz.prog.info? 160).map (·.size) = some 1 := by kernel_rfl
theorem ze162 : (Tryz.prog.info? 162).map (·.zero) = some (some (.agg #[.map none])) := by kernel_rfl
theorem pl162 (w : World) : ((#[{ name := "l", type := 160, offset := 0, embedded := false, tag := "", pkgPath := "cordwood/view", byteOffset := 0 }] : Array Field).mapM (m := Sem) fun f => do pure (f.offset, ← sizeOf f.type)).run Tryz.prog w = .ok #[(0, 1)] w := by kernel_rfl
theorem sz164 : (Tryz.prog.info? 164).map (·.size) = some 7 := by kernel_rfl
theorem ze164 : (Tryz.prog.info? 164).map (·.zero) = some (some (.agg #[.int .i64 0, .int .i64 0, .int .i64 0, .int .i64 0, .int .i64 0, .slice none 0 0, .slice none 0 0])) := by kernel_rfl
theorem pl164 (w : World) : ((#[{ name := "state", type := 3, offset := 0, embedded := false, tag := "", pkgPath := "cordwood/view", byteOffset := 0 }, { name := "m", type := 36, offset := 1, embedded := false, tag := "", pkgPath := "cordwood/view", byteOffset := 8 }] : Array Field).mapM (m := Sem) fun f => do pure (f.offset, ← sizeOf f.type)).run Tryz.prog w = .ok #[(0, 1), (1, 6)] w := by kernel_rfl
theorem ze187 : (Tryz.prog.info? 187).map (·.zero) = some (some (.agg #[.int .i64 0, .nilIface])) := by kernel_rfl
theorem pl187 (w : World) : ((#[{ name := "Pos", type := 3, offset := 0, embedded := false, tag := "", pkgPath := "", byteOffset := 0 }, { name := "Err", type := 30, offset := 1, embedded := false, tag := "", pkgPath := "", byteOffset := 8 }] : Array Field).mapM (m := Sem) fun f => do pure (f.offset, ← sizeOf f.type)).run Tryz.prog w = .ok #[(0, 1), (1, 1)] w := by kernel_rfl
theorem ze271 : (Tryz.prog.info? 271).map (·.zero) = some (some (.agg #[.slice none 0 0])) := by kernel_rfl
theorem pl271 (w : World) : ((#[{ name := "l", type := 33, offset := 0, embedded := false, tag := "", pkgPath := "cordwood/epoch", byteOffset := 0 }] : Array Field).mapM (m := Sem) fun f => do pure (f.offset, ← sizeOf f.type)).run Tryz.prog w = .ok #[(0, 1)] w := by kernel_rfl
theorem en9 (args : Array Value) (w : World) : (callFunc 9 args).run Tryz.prog w = .ok (.enter 9 args) w := by kernel_rfl
theorem en10 (args : Array Value) (w : World) : (callFunc 10 args).run Tryz.prog w = .ok (.enter 10 args) w := by kernel_rfl
theorem en11 (args : Array Value) (w : World) : (callFunc 11 args).run Tryz.prog w = .ok (.enter 11 args) w := by kernel_rfl
theorem en12 (args : Array Value) (w : World) : (callFunc 12 args).run Tryz.prog w = .ok (.enter 12 args) w := by kernel_rfl
theorem en13 (args : Array Value) (w : World) : (callFunc 13 args).run Tryz.prog w = .ok (.enter 13 args) w := by kernel_rfl
theorem en14 (args : Array Value) (w : World) : (callFunc 14 args).run Tryz.prog w = .ok (.enter 14 args) w := by kernel_rfl
theorem en15 (args : Array Value) (w : World) : (callFunc 15 args).run Tryz.prog w = .ok (.enter 15 args) w := by kernel_rfl
theorem en16 (args : Array Value) (w : World) : (callFunc 16 args).run Tryz.prog w = .ok (.enter 16 args) w := by kernel_rfl
theorem en17 (args : Array Value) (w : World) : (callFunc 17 args).run Tryz.prog w = .ok (.enter 17 args) w := by kernel_rfl
theorem en18 (args : Array Value) (w : World) : (callFunc 18 args).run Tryz.prog w = .ok (.enter 18 args) w := by kernel_rfl
theorem en19 (args : Array Value) (w : World) : (callFunc 19 args).run Tryz.prog w = .ok (.enter 19 args) w := by kernel_rfl
theorem en20 (args : Array Value) (w : World) : (callFunc 20 args).run Tryz.prog w = .ok (.enter 20 args) w := by kernel_rfl
theorem en21 (args : Array Value) (w : World) : (callFunc 21 args).run Tryz.prog w = .ok (.enter 21 args) w := by kernel_rfl
theorem en22 (args : Array Value) (w : World) : (callFunc 22 args).run Tryz.prog w = .ok (.enter 22 args) w := by kernel_rfl
theorem en23 (args : Array Value) (w : World) : (callFunc 23 args).run Tryz.prog w = .ok (.enter 23 args) w := by kernel_rfl
theorem en24 (args : Array Value) (w : World) : (callFunc 24 args).run Tryz.prog w = .ok (.enter 24 args) w := by kernel_rfl
theorem en25 (args : Array Value) (w : World) : (callFunc 25 args).run Tryz.prog w = .ok (.enter 25 args) w := by kernel_rfl
theorem en26 (args : Array Value) (w : World) : (callFunc 26 args).run Tryz.prog w = .ok (.enter 26 args) w := by kernel_rfl
theorem en28 (args : Array Value) (w : World) : (callFunc 28 args).run Tryz.prog w = .ok (.enter 28 args) w := by kernel_rfl
theorem en29 (args : Array Value) (w : World) : (callFunc 29 args).run Tryz.prog w = .ok (.enter 29 args) w := by kernel_rfl
theorem en45 (args : Array Value) (w : World) : (callFunc 45 args).run Tryz.prog w = .ok (.enter 45 args) w := by kernel_rfl
theorem en47 (args : Array Value) (w : World) : (callFunc 47 args).run Tryz.prog w = .ok (.enter 47 args) w := by kernel_rfl
theorem en49 (args : Array Value) (w : World) : (callFunc 49 args).run Tryz.prog w = .ok (.enter 49 args) w := by kernel_rfl
theorem en51 (args : Array Value) (w : World) : (callFunc 51 args).run Tryz.prog w = .ok (.enter 51 args) w := by kernel_rfl
theorem en54 (args : Array Value) (w : World) : (callFunc 54 args).run Tryz.prog w = .ok (.enter 54 args) w := by kernel_rfl
theorem en56 (args : Array Value) (w : World) : (callFunc 56 args).run Tryz.prog w = .ok (.enter 56 args) w := by kernel_rfl
theorem en58 (args : Array Value) (w : World) : (callFunc 58 args).run Tryz.prog w = .ok (.enter 58 args) w := by kernel_rfl
theorem en60 (args : Array Value) (w : World) : (callFunc 60 args).run Tryz.prog w = .ok (.enter 60 args) w := by kernel_rfl
theorem en69 (args : Array Value) (w : World) : (callFunc 69 args).run Tryz.prog w = .ok (.enter 69 args) w := by kernel_rfl
theorem en71 (args : Array Value) (w : World) : (callFunc 71 args).run Tryz.prog w = .ok (.enter 71 args) w := by kernel_rfl
theorem en73 (args : Array Value) (w : World) : (callFunc 73 args).run Tryz.prog w = .ok (.enter 73 args) w := by kernel_rfl
theorem en81 (args : Array Value) (w : World) : (callFunc 81 args).run Tryz.prog w = .ok (.enter 81 args) w := by kernel_rfl
theorem en83 (args : Array Value) (w : World) : (callFunc 83 args).run Tryz.prog w = .ok (.enter 83 args) w := by kernel_rfl
theorem en85 (args : Array Value) (w : World) : (callFunc 85 args).run Tryz.prog w = .ok (.enter 85 args) w := by kernel_rfl
theorem en89 (args : Array Value) (w : World) : (callFunc 89 args).run Tryz.prog w = .ok (.enter 89 args) w := by kernel_rfl
theorem en90 (args : Array Value) (w : World) : (callFunc 90 args).run Tryz.prog w = .ok (.enter 90 args) w := by kernel_rfl
theorem en91 (args : Array Value) (w : World) : (callFunc 91 args).run Tryz.prog w = .ok (.enter 91 args) w := by kernel_rfl
theorem en92 (args : Array Value) (w : World) : (callFunc 92 args).run Tryz.prog w = .ok (.enter 92 args) w := by kernel_rfl
theorem en93 (args : Array Value) (w : World) : (callFunc 93 args).run Tryz.prog w = .ok (.enter 93 args) w := by kernel_rfl
theorem en94 (args : Array Value) (w : World) : (callFunc 94 args).run Tryz.prog w = .ok (.enter 94 args) w := by kernel_rfl
theorem en95 (args : Array Value) (w : World) : (callFunc 95 args).run Tryz.prog w = .ok (.enter 95 args) w := by kernel_rfl
theorem en96 (args : Array Value) (w : World) : (callFunc 96 args).run Tryz.prog w = .ok (.enter 96 args) w := by kernel_rfl
theorem en97 (args : Array Value) (w : World) : (callFunc 97 args).run Tryz.prog w = .ok (.enter 97 args) w := by kernel_rfl
theorem en98 (args : Array Value) (w : World) : (callFunc 98 args).run Tryz.prog w = .ok (.enter 98 args) w := by kernel_rfl
theorem en99 (args : Array Value) (w : World) : (callFunc 99 args).run Tryz.prog w = .ok (.enter 99 args) w := by kernel_rfl
theorem en100 (args : Array Value) (w : World) : (callFunc 100 args).run Tryz.prog w = .ok (.enter 100 args) w := by kernel_rfl
theorem en101 (args : Array Value) (w : World) : (callFunc 101 args).run Tryz.prog w = .ok (.enter 101 args) w := by kernel_rfl
theorem en102 (args : Array Value) (w : World) : (callFunc 102 args).run Tryz.prog w = .ok (.enter 102 args) w := by kernel_rfl
theorem en103 (args : Array Value) (w : World) : (callFunc 103 args).run Tryz.prog w = .ok (.enter 103 args) w := by kernel_rfl
theorem en104 (args : Array Value) (w : World) : (callFunc 104 args).run Tryz.prog w = .ok (.enter 104 args) w := by kernel_rfl
theorem en105 (args : Array Value) (w : World) : (callFunc 105 args).run Tryz.prog w = .ok (.enter 105 args) w := by kernel_rfl
theorem en106 (args : Array Value) (w : World) : (callFunc 106 args).run Tryz.prog w = .ok (.enter 106 args) w := by kernel_rfl
theorem en107 (args : Array Value) (w : World) : (callFunc 107 args).run Tryz.prog w = .ok (.enter 107 args) w := by kernel_rfl
theorem en108 (args : Array Value) (w : World) : (callFunc 108 args).run Tryz.prog w = .ok (.enter 108 args) w := by kernel_rfl
theorem en109 (args : Array Value) (w : World) : (callFunc 109 args).run Tryz.prog w = .ok (.enter 109 args) w := by kernel_rfl
theorem en110 (args : Array Value) (w : World) : (callFunc 110 args).run Tryz.prog w = .ok (.enter 110 args) w := by kernel_rfl
theorem en128 (args : Array Value) (w : World) : (callFunc 128 args).run Tryz.prog w = .ok (.enter 128 args) w := by kernel_rfl
theorem en133 (args : Array Value) (w : World) : (callFunc 133 args).run Tryz.prog w = .ok (.enter 133 args) w := by kernel_rfl
theorem en148 (args : Array Value) (w : World) : (callFunc 148 args).run Tryz.prog w = .ok (.enter 148 args) w := by kernel_rfl
theorem en151 (args : Array Value) (w : World) : (callFunc 151 args).run Tryz.prog w = .ok (.enter 151 args) w := by kernel_rfl
theorem en153 (args : Array Value) (w : World) : (callFunc 153 args).run Tryz.prog w = .ok (.enter 153 args) w := by kernel_rfl
theorem en154 (args : Array Value) (w : World) : (callFunc 154 args).run Tryz.prog w = .ok (.enter 154 args) w := by kernel_rfl
theorem en155 (args : Array Value) (w : World) : (callFunc 155 args).run Tryz.prog w = .ok (.enter 155 args) w := by kernel_rfl
theorem en156 (args : Array Value) (w : World) : (callFunc 156 args).run Tryz.prog w = .ok (.enter 156 args) w := by kernel_rfl
theorem en157 (args : Array Value) (w : World) : (callFunc 157 args).run Tryz.prog w = .ok (.enter 157 args) w := by kernel_rfl
theorem en159 (args : Array Value) (w : World) : (callFunc 159 args).run Tryz.prog w = .ok (.enter 159 args) w := by kernel_rfl
theorem en160 (args : Array Value) (w : World) : (callFunc 160 args).run Tryz.prog w = .ok (.enter 160 args) w := by kernel_rfl
theorem en162 (args : Array Value) (w : World) : (callFunc 162 args).run Tryz.prog w = .ok (.enter 162 args) w := by kernel_rfl
theorem en164 (args : Array Value) (w : World) : (callFunc 164 args).run Tryz.prog w = .ok (.enter 164 args) w := by kernel_rfl
theorem en165 (args : Array Value) (w : World) : (callFunc 165 args).run Tryz.prog w = .ok (.enter 165 args) w := by kernel_rfl
theorem en167 (args : Array Value) (w : World) : (callFunc 167 args).run Tryz.prog w = .ok (.enter 167 args) w := by kernel_rfl
theorem en168 (args : Array Value) (w : World) : (callFunc 168 args).run Tryz.prog w = .ok (.enter 168 args) w := by kernel_rfl
theorem en170 (args : Array Value) (w : World) : (callFunc 170 args).run Tryz.prog w = .ok (.enter 170 args) w := by kernel_rfl
theorem en171 (args : Array Value) (w : World) : (callFunc 171 args).run Tryz.prog w = .ok (.enter 171 args) w := by kernel_rfl
theorem en172 (args : Array Value) (w : World) : (callFunc 172 args).run Tryz.prog w = .ok (.enter 172 args) w := by kernel_rfl
theorem en173 (args : Array Value) (w : World) : (callFunc 173 args).run Tryz.prog w = .ok (.enter 173 args) w := by kernel_rfl
theorem en174 (args : Array Value) (w : World) : (callFunc 174 args).run Tryz.prog w = .ok (.enter 174 args) w := by kernel_rfl
theorem en175 (args : Array Value) (w : World) : (callFunc 175 args).run Tryz.prog w = .ok (.enter 175 args) w := by kernel_rfl
theorem en176 (args : Array Value) (w : World) : (callFunc 176 args).run Tryz.prog w = .ok (.enter 176 args) w := by kernel_rfl
theorem en177 (args : Array Value) (w : World) : (callFunc 177 args).run Tryz.prog w = .ok (.enter 177 args) w := by kernel_rfl
theorem en178 (args : Array Value) (w : World) : (callFunc 178 args).run Tryz.prog w = .ok (.enter 178 args) w := by kernel_rfl
theorem en179 (args : Array Value) (w : World) : (callFunc 179 args).run Tryz.prog w = .ok (.enter 179 args) w := by kernel_rfl
theorem en180 (args : Array Value) (w : World) : (callFunc 180 args).run Tryz.prog w = .ok (.enter 180 args) w := by kernel_rfl
theorem en181 (args : Array Value) (w : World) : (callFunc 181 args).run Tryz.prog w = .ok (.enter 181 args) w := by kernel_rfl
theorem en189 (args : Array Value) (w : World) : (callFunc 189 args).run Tryz.prog w = .ok (.enter 189 args) w := by kernel_rfl
theorem en190 (args : Array Value) (w : World) : (callFunc 190 args).run Tryz.prog w = .ok (.enter 190 args) w := by kernel_rfl
theorem en191 (args : Array Value) (w : World) : (callFunc 191 args).run Tryz.prog w = .ok (.enter 191 args) w := by kernel_rfl
theorem en192 (args : Array Value) (w : World) : (callFunc 192 args).run Tryz.prog w = .ok (.enter 192 args) w := by kernel_rfl
theorem en193 (args : Array Value) (w : World) : (callFunc 193 args).run Tryz.prog w = .ok (.enter 193 args) w := by kernel_rfl
theorem en194 (args : Array Value) (w : World) : (callFunc 194 args).run Tryz.prog w = .ok (.enter 194 args) w := by kernel_rfl
theorem en195 (args : Array Value) (w : World) : (callFunc 195 args).run Tryz.prog w = .ok (.enter 195 args) w := by kernel_rfl
theorem en196 (args : Array Value) (w : World) : (callFunc 196 args).run Tryz.prog w = .ok (.enter 196 args) w := by kernel_rfl
theorem en204 (args : Array Value) (w : World) : (callFunc 204 args).run Tryz.prog w = .ok (.enter 204 args) w := by kernel_rfl
theorem en205 (args : Array Value) (w : World) : (callFunc 205 args).run Tryz.prog w = .ok (.enter 205 args) w := by kernel_rfl
theorem en206 (args : Array Value) (w : World) : (callFunc 206 args).run Tryz.prog w = .ok (.enter 206 args) w := by kernel_rfl
theorem en207 (args : Array Value) (w : World) : (callFunc 207 args).run Tryz.prog w = .ok (.enter 207 args) w := by kernel_rfl
theorem en223 (args : Array Value) (w : World) : (callFunc 223 args).run Tryz.prog w = .ok (.enter 223 args) w := by kernel_rfl
theorem en226 (args : Array Value) (w : World) : (callFunc 226 args).run Tryz.prog w = .ok (.enter 226 args) w := by kernel_rfl
theorem en227 (args : Array Value) (w : World) : (callFunc 227 args).run Tryz.prog w = .ok (.enter 227 args) w := by kernel_rfl
theorem en233 (args : Array Value) (w : World) : (callFunc 233 args).run Tryz.prog w = .ok (.enter 233 args) w := by kernel_rfl
theorem en234 (args : Array Value) (w : World) : (callFunc 234 args).run Tryz.prog w = .ok (.enter 234 args) w := by kernel_rfl
theorem en235 (args : Array Value) (w : World) : (callFunc 235 args).run Tryz.prog w = .ok (.enter 235 args) w := by kernel_rfl
theorem en236 (args : Array Value) (w : World) : (callFunc 236 args).run Tryz.prog w = .ok (.enter 236 args) w := by kernel_rfl
theorem en237 (args : Array Value) (w : World) : (callFunc 237 args).run Tryz.prog w = .ok (.enter 237 args) w := by kernel_rfl
theorem en241 (args : Array Value) (w : World) : (callFunc 241 args).run Tryz.prog w = .ok (.enter 241 args) w := by kernel_rfl
theorem en268 (args : Array Value) (w : World) : (callFunc 268 args).run Tryz.prog w = .ok (.enter 268 args) w := by kernel_rfl
theorem en269 (args : Array Value) (w : World) : (callFunc 269 args).run Tryz.prog w = .ok (.enter 269 args) w := by kernel_rfl
theorem mixes : Tryz.prog.follows .mixedOrders = true := by kernel_rfl
end Go.Proofs.YtkogkokmcmallaaGreatDoor
