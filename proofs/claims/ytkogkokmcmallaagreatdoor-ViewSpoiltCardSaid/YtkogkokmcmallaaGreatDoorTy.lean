/- The seat's closed facts: sizes and zeros of types, entries of functions. Written by a program (mkty.py). -/
import Derived.Test.YtkogkokmcmallaaGreatDoorZb
import Derived.Test.YtkogkokmcmallaaGreatDoorProg
namespace Go.Proofs.YtkogkokmcmallaaGreatDoor
set_option linter.all false
open Go.RowKit
theorem in1 : (Tryz.prog.info? 1).map (fun i => (i.zero, i.size, i.bytes)) = some (some (.nilFunc), 1, 8) := by kernel_rfl
theorem sz1 : (Tryz.prog.info? 1).map (·.size) = some 1 := by kernel_rfl
theorem ze1 : (Tryz.prog.info? 1).map (·.zero) = some (some (.nilFunc)) := by kernel_rfl
theorem zs1 : (Tryz.prog.info? 1).map (fun i => (i.zero, i.size)) = some (some (.nilFunc), 1) := by kernel_rfl
theorem in2 : (Tryz.prog.info? 2).map (fun i => (i.zero, i.size, i.bytes)) = some (some (.int .i64 0), 1, 8) := by kernel_rfl
theorem sz2 : (Tryz.prog.info? 2).map (·.size) = some 1 := by kernel_rfl
theorem ze2 : (Tryz.prog.info? 2).map (·.zero) = some (some (.int .i64 0)) := by kernel_rfl
theorem zs2 : (Tryz.prog.info? 2).map (fun i => (i.zero, i.size)) = some (some (.int .i64 0), 1) := by kernel_rfl
theorem in3 : (Tryz.prog.info? 3).map (fun i => (i.zero, i.size, i.bytes)) = some (some (.int .i64 0), 1, 8) := by kernel_rfl
theorem sz3 : (Tryz.prog.info? 3).map (·.size) = some 1 := by kernel_rfl
theorem ze3 : (Tryz.prog.info? 3).map (·.zero) = some (some (.int .i64 0)) := by kernel_rfl
theorem zs3 : (Tryz.prog.info? 3).map (fun i => (i.zero, i.size)) = some (some (.int .i64 0), 1) := by kernel_rfl
theorem in4 : (Tryz.prog.info? 4).map (fun i => (i.zero, i.size, i.bytes)) = some (some (.bool false), 1, 1) := by kernel_rfl
theorem sz4 : (Tryz.prog.info? 4).map (·.size) = some 1 := by kernel_rfl
theorem ze4 : (Tryz.prog.info? 4).map (·.zero) = some (some (.bool false)) := by kernel_rfl
theorem zs4 : (Tryz.prog.info? 4).map (fun i => (i.zero, i.size)) = some (some (.bool false), 1) := by kernel_rfl
theorem in5 : (Tryz.prog.info? 5).map (fun i => (i.zero, i.size, i.bytes)) = some (some (.int .u8 0), 1, 1) := by kernel_rfl
theorem sz5 : (Tryz.prog.info? 5).map (·.size) = some 1 := by kernel_rfl
theorem ze5 : (Tryz.prog.info? 5).map (·.zero) = some (some (.int .u8 0)) := by kernel_rfl
theorem zs5 : (Tryz.prog.info? 5).map (fun i => (i.zero, i.size)) = some (some (.int .u8 0), 1) := by kernel_rfl
theorem in6 : (Tryz.prog.info? 6).map (fun i => (i.zero, i.size, i.bytes)) = some (some (.int .u8 0), 1, 1) := by kernel_rfl
theorem sz6 : (Tryz.prog.info? 6).map (·.size) = some 1 := by kernel_rfl
theorem ze6 : (Tryz.prog.info? 6).map (·.zero) = some (some (.int .u8 0)) := by kernel_rfl
theorem zs6 : (Tryz.prog.info? 6).map (fun i => (i.zero, i.size)) = some (some (.int .u8 0), 1) := by kernel_rfl
theorem in7 : (Tryz.prog.info? 7).map (fun i => (i.zero, i.size, i.bytes)) = some (some (.agg #[.int .i64 0, .int .i64 0, .bool false, .int .u8 0]), 4, 24) := by kernel_rfl
theorem sz7 : (Tryz.prog.info? 7).map (·.size) = some 4 := by kernel_rfl
theorem ze7 : (Tryz.prog.info? 7).map (·.zero) = some (some (.agg #[.int .i64 0, .int .i64 0, .bool false, .int .u8 0])) := by kernel_rfl
theorem pl7 (w : World) : ((#[{ name := "x", type := 2, offset := 0, embedded := false, tag := "", pkgPath := "runtime", byteOffset := 0 }, { name := "y", type := 3, offset := 1, embedded := false, tag := "", pkgPath := "runtime", byteOffset := 8 }, { name := "signed", type := 4, offset := 2, embedded := false, tag := "", pkgPath := "runtime", byteOffset := 16 }, { name := "code", type := 6, offset := 3, embedded := false, tag := "", pkgPath := "runtime", byteOffset := 17 }] : Array Field).mapM (m := Sem) fun f => do pure (f.offset, ← sizeOf f.type)).run Tryz.prog w = .ok #[(0, 1), (1, 1), (2, 1), (3, 1)] w := by kernel_rfl
theorem in8 : (Tryz.prog.info? 8).map (fun i => (i.zero, i.size, i.bytes)) = some (some (.agg #[.int .i64 0, .int .i64 0, .bool false, .int .u8 0]), 4, 24) := by kernel_rfl
theorem sz8 : (Tryz.prog.info? 8).map (·.size) = some 4 := by kernel_rfl
theorem ze8 : (Tryz.prog.info? 8).map (·.zero) = some (some (.agg #[.int .i64 0, .int .i64 0, .bool false, .int .u8 0])) := by kernel_rfl
theorem pl8 (w : World) : ((#[{ name := "x", type := 2, offset := 0, embedded := false, tag := "", pkgPath := "runtime", byteOffset := 0 }, { name := "y", type := 3, offset := 1, embedded := false, tag := "", pkgPath := "runtime", byteOffset := 8 }, { name := "signed", type := 4, offset := 2, embedded := false, tag := "", pkgPath := "runtime", byteOffset := 16 }, { name := "code", type := 6, offset := 3, embedded := false, tag := "", pkgPath := "runtime", byteOffset := 17 }] : Array Field).mapM (m := Sem) fun f => do pure (f.offset, ← sizeOf f.type)).run Tryz.prog w = .ok #[(0, 1), (1, 1), (2, 1), (3, 1)] w := by kernel_rfl
theorem in9 : (Tryz.prog.info? 9).map (fun i => (i.zero, i.size, i.bytes)) = some (some (.string ByteArray.empty), 1, 16) := by kernel_rfl
theorem sz9 : (Tryz.prog.info? 9).map (·.size) = some 1 := by kernel_rfl
theorem ze9 : (Tryz.prog.info? 9).map (·.zero) = some (some (.string ByteArray.empty)) := by kernel_rfl
theorem zs9 : (Tryz.prog.info? 9).map (fun i => (i.zero, i.size)) = some (some (.string ByteArray.empty), 1) := by kernel_rfl
theorem in10 : (Tryz.prog.info? 10).map (fun i => (i.zero, i.size, i.bytes)) = some (some (.string ByteArray.empty), 1, 16) := by kernel_rfl
theorem sz10 : (Tryz.prog.info? 10).map (·.size) = some 1 := by kernel_rfl
theorem ze10 : (Tryz.prog.info? 10).map (·.zero) = some (some (.string ByteArray.empty)) := by kernel_rfl
theorem zs10 : (Tryz.prog.info? 10).map (fun i => (i.zero, i.size)) = some (some (.string ByteArray.empty), 1) := by kernel_rfl
theorem in11 : (Tryz.prog.info? 11).map (fun i => (i.zero, i.size, i.bytes)) = some (some (.string ByteArray.empty), 1, 16) := by kernel_rfl
theorem sz11 : (Tryz.prog.info? 11).map (·.size) = some 1 := by kernel_rfl
theorem ze11 : (Tryz.prog.info? 11).map (·.zero) = some (some (.string ByteArray.empty)) := by kernel_rfl
theorem zs11 : (Tryz.prog.info? 11).map (fun i => (i.zero, i.size)) = some (some (.string ByteArray.empty), 1) := by kernel_rfl
theorem in12 : (Tryz.prog.info? 12).map (fun i => (i.zero, i.size, i.bytes)) = some (some (.int .u64 0), 1, 8) := by kernel_rfl
theorem sz12 : (Tryz.prog.info? 12).map (·.size) = some 1 := by kernel_rfl
theorem ze12 : (Tryz.prog.info? 12).map (·.zero) = some (some (.int .u64 0)) := by kernel_rfl
theorem zs12 : (Tryz.prog.info? 12).map (fun i => (i.zero, i.size)) = some (some (.int .u64 0), 1) := by kernel_rfl
theorem in13 : (Tryz.prog.info? 13).map (fun i => (i.zero, i.size, i.bytes)) = some (some (.agg #[.string ByteArray.empty, .int .u64 0]), 2, 24) := by kernel_rfl
theorem sz13 : (Tryz.prog.info? 13).map (·.size) = some 2 := by kernel_rfl
theorem ze13 : (Tryz.prog.info? 13).map (·.zero) = some (some (.agg #[.string ByteArray.empty, .int .u64 0])) := by kernel_rfl
theorem pl13 (w : World) : ((#[{ name := "msg", type := 9, offset := 0, embedded := false, tag := "", pkgPath := "runtime", byteOffset := 0 }, { name := "addr", type := 12, offset := 1, embedded := false, tag := "", pkgPath := "runtime", byteOffset := 16 }] : Array Field).mapM (m := Sem) fun f => do pure (f.offset, ← sizeOf f.type)).run Tryz.prog w = .ok #[(0, 1), (1, 1)] w := by kernel_rfl
theorem in14 : (Tryz.prog.info? 14).map (fun i => (i.zero, i.size, i.bytes)) = some (some (.agg #[.string ByteArray.empty, .int .u64 0]), 2, 24) := by kernel_rfl
theorem sz14 : (Tryz.prog.info? 14).map (·.size) = some 2 := by kernel_rfl
theorem ze14 : (Tryz.prog.info? 14).map (·.zero) = some (some (.agg #[.string ByteArray.empty, .int .u64 0])) := by kernel_rfl
theorem pl14 (w : World) : ((#[{ name := "msg", type := 9, offset := 0, embedded := false, tag := "", pkgPath := "runtime", byteOffset := 0 }, { name := "addr", type := 12, offset := 1, embedded := false, tag := "", pkgPath := "runtime", byteOffset := 16 }] : Array Field).mapM (m := Sem) fun f => do pure (f.offset, ← sizeOf f.type)).run Tryz.prog w = .ok #[(0, 1), (1, 1)] w := by kernel_rfl
theorem in15 : (Tryz.prog.info? 15).map (fun i => (i.zero, i.size, i.bytes)) = some (some (.pointer none), 1, 8) := by kernel_rfl
theorem sz15 : (Tryz.prog.info? 15).map (·.size) = some 1 := by kernel_rfl
theorem ze15 : (Tryz.prog.info? 15).map (·.zero) = some (some (.pointer none)) := by kernel_rfl
theorem zs15 : (Tryz.prog.info? 15).map (fun i => (i.zero, i.size)) = some (some (.pointer none), 1) := by kernel_rfl
theorem in16 : (Tryz.prog.info? 16).map (fun i => (i.zero, i.size, i.bytes)) = some (some (.pointer none), 1, 8) := by kernel_rfl
theorem sz16 : (Tryz.prog.info? 16).map (·.size) = some 1 := by kernel_rfl
theorem ze16 : (Tryz.prog.info? 16).map (·.zero) = some (some (.pointer none)) := by kernel_rfl
theorem zs16 : (Tryz.prog.info? 16).map (fun i => (i.zero, i.size)) = some (some (.pointer none), 1) := by kernel_rfl
theorem in17 : (Tryz.prog.info? 17).map (fun i => (i.zero, i.size, i.bytes)) = some (some (.pointer none), 1, 8) := by kernel_rfl
theorem sz17 : (Tryz.prog.info? 17).map (·.size) = some 1 := by kernel_rfl
theorem ze17 : (Tryz.prog.info? 17).map (·.zero) = some (some (.pointer none)) := by kernel_rfl
theorem zs17 : (Tryz.prog.info? 17).map (fun i => (i.zero, i.size)) = some (some (.pointer none), 1) := by kernel_rfl
theorem in18 : (Tryz.prog.info? 18).map (fun i => (i.zero, i.size, i.bytes)) = some (some (.agg #[.pointer none]), 1, 8) := by kernel_rfl
theorem sz18 : (Tryz.prog.info? 18).map (·.size) = some 1 := by kernel_rfl
theorem ze18 : (Tryz.prog.info? 18).map (·.zero) = some (some (.agg #[.pointer none])) := by kernel_rfl
theorem zs18 : (Tryz.prog.info? 18).map (fun i => (i.zero, i.size)) = some (some (.agg #[.pointer none]), 1) := by kernel_rfl
theorem pl18 (w : World) : ((#[{ name := "typ", type := 17, offset := 0, embedded := false, tag := "", pkgPath := "internal/runtime/maps", byteOffset := 0 }] : Array Field).mapM (m := Sem) fun f => do pure (f.offset, ← sizeOf f.type)).run Tryz.prog w = .ok #[(0, 1)] w := by kernel_rfl
theorem in19 : (Tryz.prog.info? 19).map (fun i => (i.zero, i.size, i.bytes)) = some (some (.agg #[.pointer none]), 1, 8) := by kernel_rfl
theorem sz19 : (Tryz.prog.info? 19).map (·.size) = some 1 := by kernel_rfl
theorem ze19 : (Tryz.prog.info? 19).map (·.zero) = some (some (.agg #[.pointer none])) := by kernel_rfl
theorem zs19 : (Tryz.prog.info? 19).map (fun i => (i.zero, i.size)) = some (some (.agg #[.pointer none]), 1) := by kernel_rfl
theorem pl19 (w : World) : ((#[{ name := "typ", type := 17, offset := 0, embedded := false, tag := "", pkgPath := "internal/runtime/maps", byteOffset := 0 }] : Array Field).mapM (m := Sem) fun f => do pure (f.offset, ← sizeOf f.type)).run Tryz.prog w = .ok #[(0, 1)] w := by kernel_rfl
theorem in20 : (Tryz.prog.info? 20).map (fun i => (i.zero, i.size, i.bytes)) = some (some (.nilIface), 1, 16) := by kernel_rfl
theorem sz20 : (Tryz.prog.info? 20).map (·.size) = some 1 := by kernel_rfl
theorem ze20 : (Tryz.prog.info? 20).map (·.zero) = some (some (.nilIface)) := by kernel_rfl
theorem zs20 : (Tryz.prog.info? 20).map (fun i => (i.zero, i.size)) = some (some (.nilIface), 1) := by kernel_rfl
theorem in21 : (Tryz.prog.info? 21).map (fun i => (i.zero, i.size, i.bytes)) = some (some (.int .i32 0), 1, 4) := by kernel_rfl
theorem sz21 : (Tryz.prog.info? 21).map (·.size) = some 1 := by kernel_rfl
theorem ze21 : (Tryz.prog.info? 21).map (·.zero) = some (some (.int .i32 0)) := by kernel_rfl
theorem zs21 : (Tryz.prog.info? 21).map (fun i => (i.zero, i.size)) = some (some (.int .i32 0), 1) := by kernel_rfl
theorem in22 : (Tryz.prog.info? 22).map (fun i => (i.zero, i.size, i.bytes)) = some (some (.slice none 0 0), 1, 24) := by kernel_rfl
theorem sz22 : (Tryz.prog.info? 22).map (·.size) = some 1 := by kernel_rfl
theorem ze22 : (Tryz.prog.info? 22).map (·.zero) = some (some (.slice none 0 0)) := by kernel_rfl
theorem zs22 : (Tryz.prog.info? 22).map (fun i => (i.zero, i.size)) = some (some (.slice none 0 0), 1) := by kernel_rfl
theorem in23 : (Tryz.prog.info? 23).map (fun i => (i.zero, i.size, i.bytes)) = some (some (.nilFunc), 1, 8) := by kernel_rfl
theorem sz23 : (Tryz.prog.info? 23).map (·.size) = some 1 := by kernel_rfl
theorem ze23 : (Tryz.prog.info? 23).map (·.zero) = some (some (.nilFunc)) := by kernel_rfl
theorem zs23 : (Tryz.prog.info? 23).map (fun i => (i.zero, i.size)) = some (some (.nilFunc), 1) := by kernel_rfl
theorem in24 : (Tryz.prog.info? 24).map (fun i => (i.zero, i.size, i.bytes)) = some (some (.pointer none), 1, 8) := by kernel_rfl
theorem sz24 : (Tryz.prog.info? 24).map (·.size) = some 1 := by kernel_rfl
theorem ze24 : (Tryz.prog.info? 24).map (·.zero) = some (some (.pointer none)) := by kernel_rfl
theorem zs24 : (Tryz.prog.info? 24).map (fun i => (i.zero, i.size)) = some (some (.pointer none), 1) := by kernel_rfl
theorem in25 : (Tryz.prog.info? 25).map (fun i => (i.zero, i.size, i.bytes)) = some (some (.nilFunc), 1, 8) := by kernel_rfl
theorem sz25 : (Tryz.prog.info? 25).map (·.size) = some 1 := by kernel_rfl
theorem ze25 : (Tryz.prog.info? 25).map (·.zero) = some (some (.nilFunc)) := by kernel_rfl
theorem zs25 : (Tryz.prog.info? 25).map (fun i => (i.zero, i.size)) = some (some (.nilFunc), 1) := by kernel_rfl
theorem in26 : (Tryz.prog.info? 26).map (fun i => (i.zero, i.size, i.bytes)) = some (some (.pointer none), 1, 8) := by kernel_rfl
theorem sz26 : (Tryz.prog.info? 26).map (·.size) = some 1 := by kernel_rfl
theorem ze26 : (Tryz.prog.info? 26).map (·.zero) = some (some (.pointer none)) := by kernel_rfl
theorem zs26 : (Tryz.prog.info? 26).map (fun i => (i.zero, i.size)) = some (some (.pointer none), 1) := by kernel_rfl
theorem in27 : (Tryz.prog.info? 27).map (fun i => (i.zero, i.size, i.bytes)) = some (some (.nilFunc), 1, 8) := by kernel_rfl
theorem sz27 : (Tryz.prog.info? 27).map (·.size) = some 1 := by kernel_rfl
theorem ze27 : (Tryz.prog.info? 27).map (·.zero) = some (some (.nilFunc)) := by kernel_rfl
theorem zs27 : (Tryz.prog.info? 27).map (fun i => (i.zero, i.size)) = some (some (.nilFunc), 1) := by kernel_rfl
theorem in28 : (Tryz.prog.info? 28).map (fun i => (i.zero, i.size, i.bytes)) = some (some (.pointer none), 1, 8) := by kernel_rfl
theorem sz28 : (Tryz.prog.info? 28).map (·.size) = some 1 := by kernel_rfl
theorem ze28 : (Tryz.prog.info? 28).map (·.zero) = some (some (.pointer none)) := by kernel_rfl
theorem zs28 : (Tryz.prog.info? 28).map (fun i => (i.zero, i.size)) = some (some (.pointer none), 1) := by kernel_rfl
theorem in29 : (Tryz.prog.info? 29).map (fun i => (i.zero, i.size, i.bytes)) = some (some (.nilIface), 1, 16) := by kernel_rfl
theorem sz29 : (Tryz.prog.info? 29).map (·.size) = some 1 := by kernel_rfl
theorem ze29 : (Tryz.prog.info? 29).map (·.zero) = some (some (.nilIface)) := by kernel_rfl
theorem zs29 : (Tryz.prog.info? 29).map (fun i => (i.zero, i.size)) = some (some (.nilIface), 1) := by kernel_rfl
theorem in30 : (Tryz.prog.info? 30).map (fun i => (i.zero, i.size, i.bytes)) = some (some (.nilIface), 1, 16) := by kernel_rfl
theorem sz30 : (Tryz.prog.info? 30).map (·.size) = some 1 := by kernel_rfl
theorem ze30 : (Tryz.prog.info? 30).map (·.zero) = some (some (.nilIface)) := by kernel_rfl
theorem zs30 : (Tryz.prog.info? 30).map (fun i => (i.zero, i.size)) = some (some (.nilIface), 1) := by kernel_rfl
theorem in32 : (Tryz.prog.info? 32).map (fun i => (i.zero, i.size, i.bytes)) = some (some (.nilFunc), 1, 8) := by kernel_rfl
theorem sz32 : (Tryz.prog.info? 32).map (·.size) = some 1 := by kernel_rfl
theorem ze32 : (Tryz.prog.info? 32).map (·.zero) = some (some (.nilFunc)) := by kernel_rfl
theorem zs32 : (Tryz.prog.info? 32).map (fun i => (i.zero, i.size)) = some (some (.nilFunc), 1) := by kernel_rfl
theorem in33 : (Tryz.prog.info? 33).map (fun i => (i.zero, i.size, i.bytes)) = some (some (.slice none 0 0), 1, 24) := by kernel_rfl
theorem sz33 : (Tryz.prog.info? 33).map (·.size) = some 1 := by kernel_rfl
theorem ze33 : (Tryz.prog.info? 33).map (·.zero) = some (some (.slice none 0 0)) := by kernel_rfl
theorem zs33 : (Tryz.prog.info? 33).map (fun i => (i.zero, i.size)) = some (some (.slice none 0 0), 1) := by kernel_rfl
theorem in34 : (Tryz.prog.info? 34).map (fun i => (i.zero, i.size, i.bytes)) = some (some (.slice none 0 0), 1, 24) := by kernel_rfl
theorem sz34 : (Tryz.prog.info? 34).map (·.size) = some 1 := by kernel_rfl
theorem ze34 : (Tryz.prog.info? 34).map (·.zero) = some (some (.slice none 0 0)) := by kernel_rfl
theorem zs34 : (Tryz.prog.info? 34).map (fun i => (i.zero, i.size)) = some (some (.slice none 0 0), 1) := by kernel_rfl
theorem in35 : (Tryz.prog.info? 35).map (fun i => (i.zero, i.size, i.bytes)) = some (some (.agg #[.int .i64 0, .int .i64 0, .int .i64 0, .int .i64 0, .slice none 0 0, .slice none 0 0]), 6, 80) := by kernel_rfl
theorem sz35 : (Tryz.prog.info? 35).map (·.size) = some 6 := by kernel_rfl
theorem ze35 : (Tryz.prog.info? 35).map (·.zero) = some (some (.agg #[.int .i64 0, .int .i64 0, .int .i64 0, .int .i64 0, .slice none 0 0, .slice none 0 0])) := by kernel_rfl
theorem pl35 (w : World) : ((#[{ name := "ID", type := 3, offset := 0, embedded := false, tag := "", pkgPath := "", byteOffset := 0 }, { name := "Base", type := 2, offset := 1, embedded := false, tag := "", pkgPath := "", byteOffset := 8 }, { name := "End", type := 2, offset := 2, embedded := false, tag := "", pkgPath := "", byteOffset := 16 }, { name := "Time", type := 2, offset := 3, embedded := false, tag := "", pkgPath := "", byteOffset := 24 }, { name := "Epochs", type := 33, offset := 4, embedded := false, tag := "", pkgPath := "", byteOffset := 32 }, { name := "Objects", type := 34, offset := 5, embedded := false, tag := "", pkgPath := "", byteOffset := 56 }] : Array Field).mapM (m := Sem) fun f => do pure (f.offset, ← sizeOf f.type)).run Tryz.prog w = .ok #[(0, 1), (1, 1), (2, 1), (3, 1), (4, 1), (5, 1)] w := by kernel_rfl
theorem in36 : (Tryz.prog.info? 36).map (fun i => (i.zero, i.size, i.bytes)) = some (some (.agg #[.int .i64 0, .int .i64 0, .int .i64 0, .int .i64 0, .slice none 0 0, .slice none 0 0]), 6, 80) := by kernel_rfl
theorem sz36 : (Tryz.prog.info? 36).map (·.size) = some 6 := by kernel_rfl
theorem ze36 : (Tryz.prog.info? 36).map (·.zero) = some (some (.agg #[.int .i64 0, .int .i64 0, .int .i64 0, .int .i64 0, .slice none 0 0, .slice none 0 0])) := by kernel_rfl
theorem pl36 (w : World) : ((#[{ name := "ID", type := 3, offset := 0, embedded := false, tag := "", pkgPath := "", byteOffset := 0 }, { name := "Base", type := 2, offset := 1, embedded := false, tag := "", pkgPath := "", byteOffset := 8 }, { name := "End", type := 2, offset := 2, embedded := false, tag := "", pkgPath := "", byteOffset := 16 }, { name := "Time", type := 2, offset := 3, embedded := false, tag := "", pkgPath := "", byteOffset := 24 }, { name := "Epochs", type := 33, offset := 4, embedded := false, tag := "", pkgPath := "", byteOffset := 32 }, { name := "Objects", type := 34, offset := 5, embedded := false, tag := "", pkgPath := "", byteOffset := 56 }] : Array Field).mapM (m := Sem) fun f => do pure (f.offset, ← sizeOf f.type)).run Tryz.prog w = .ok #[(0, 1), (1, 1), (2, 1), (3, 1), (4, 1), (5, 1)] w := by kernel_rfl
theorem in37 : (Tryz.prog.info? 37).map (fun i => (i.zero, i.size, i.bytes)) = some (some (.nilFunc), 1, 8) := by kernel_rfl
theorem sz37 : (Tryz.prog.info? 37).map (·.size) = some 1 := by kernel_rfl
theorem ze37 : (Tryz.prog.info? 37).map (·.zero) = some (some (.nilFunc)) := by kernel_rfl
theorem zs37 : (Tryz.prog.info? 37).map (fun i => (i.zero, i.size)) = some (some (.nilFunc), 1) := by kernel_rfl
theorem in38 : (Tryz.prog.info? 38).map (fun i => (i.zero, i.size, i.bytes)) = some (some (.nilFunc), 1, 8) := by kernel_rfl
theorem sz38 : (Tryz.prog.info? 38).map (·.size) = some 1 := by kernel_rfl
theorem ze38 : (Tryz.prog.info? 38).map (·.zero) = some (some (.nilFunc)) := by kernel_rfl
theorem zs38 : (Tryz.prog.info? 38).map (fun i => (i.zero, i.size)) = some (some (.nilFunc), 1) := by kernel_rfl
theorem in39 : (Tryz.prog.info? 39).map (fun i => (i.zero, i.size, i.bytes)) = some (some (.int .u32 0), 1, 4) := by kernel_rfl
theorem sz39 : (Tryz.prog.info? 39).map (·.size) = some 1 := by kernel_rfl
theorem ze39 : (Tryz.prog.info? 39).map (·.zero) = some (some (.int .u32 0)) := by kernel_rfl
theorem zs39 : (Tryz.prog.info? 39).map (fun i => (i.zero, i.size)) = some (some (.int .u32 0), 1) := by kernel_rfl
theorem in40 : (Tryz.prog.info? 40).map (fun i => (i.zero, i.size, i.bytes)) = some (some (.agg #[.string ByteArray.empty, .int .i64 0, .int .u32 0]), 3, 32) := by kernel_rfl
theorem sz40 : (Tryz.prog.info? 40).map (·.size) = some 3 := by kernel_rfl
theorem ze40 : (Tryz.prog.info? 40).map (·.zero) = some (some (.agg #[.string ByteArray.empty, .int .i64 0, .int .u32 0])) := by kernel_rfl
theorem pl40 (w : World) : ((#[{ name := "Name", type := 9, offset := 0, embedded := false, tag := "", pkgPath := "", byteOffset := 0 }, { name := "Len", type := 3, offset := 1, embedded := false, tag := "", pkgPath := "", byteOffset := 16 }, { name := "Sum", type := 39, offset := 2, embedded := false, tag := "", pkgPath := "", byteOffset := 24 }] : Array Field).mapM (m := Sem) fun f => do pure (f.offset, ← sizeOf f.type)).run Tryz.prog w = .ok #[(0, 1), (1, 1), (2, 1)] w := by kernel_rfl
theorem in41 : (Tryz.prog.info? 41).map (fun i => (i.zero, i.size, i.bytes)) = some (some (.agg #[.string ByteArray.empty, .int .i64 0, .int .u32 0]), 3, 32) := by kernel_rfl
theorem sz41 : (Tryz.prog.info? 41).map (·.size) = some 3 := by kernel_rfl
theorem ze41 : (Tryz.prog.info? 41).map (·.zero) = some (some (.agg #[.string ByteArray.empty, .int .i64 0, .int .u32 0])) := by kernel_rfl
theorem pl41 (w : World) : ((#[{ name := "Name", type := 9, offset := 0, embedded := false, tag := "", pkgPath := "", byteOffset := 0 }, { name := "Len", type := 3, offset := 1, embedded := false, tag := "", pkgPath := "", byteOffset := 16 }, { name := "Sum", type := 39, offset := 2, embedded := false, tag := "", pkgPath := "", byteOffset := 24 }] : Array Field).mapM (m := Sem) fun f => do pure (f.offset, ← sizeOf f.type)).run Tryz.prog w = .ok #[(0, 1), (1, 1), (2, 1)] w := by kernel_rfl
theorem in42 : (Tryz.prog.info? 42).map (fun i => (i.zero, i.size, i.bytes)) = some (some (.nilFunc), 1, 8) := by kernel_rfl
theorem sz42 : (Tryz.prog.info? 42).map (·.size) = some 1 := by kernel_rfl
theorem ze42 : (Tryz.prog.info? 42).map (·.zero) = some (some (.nilFunc)) := by kernel_rfl
theorem zs42 : (Tryz.prog.info? 42).map (fun i => (i.zero, i.size)) = some (some (.nilFunc), 1) := by kernel_rfl
theorem in43 : (Tryz.prog.info? 43).map (fun i => (i.zero, i.size, i.bytes)) = some (some (.nilFunc), 1, 8) := by kernel_rfl
theorem sz43 : (Tryz.prog.info? 43).map (·.size) = some 1 := by kernel_rfl
theorem ze43 : (Tryz.prog.info? 43).map (·.zero) = some (some (.nilFunc)) := by kernel_rfl
theorem zs43 : (Tryz.prog.info? 43).map (fun i => (i.zero, i.size)) = some (some (.nilFunc), 1) := by kernel_rfl
theorem in44 : (Tryz.prog.info? 44).map (fun i => (i.zero, i.size, i.bytes)) = some (some (.nilFunc), 1, 8) := by kernel_rfl
theorem sz44 : (Tryz.prog.info? 44).map (·.size) = some 1 := by kernel_rfl
theorem ze44 : (Tryz.prog.info? 44).map (·.zero) = some (some (.nilFunc)) := by kernel_rfl
theorem zs44 : (Tryz.prog.info? 44).map (fun i => (i.zero, i.size)) = some (some (.nilFunc), 1) := by kernel_rfl
theorem in45 : (Tryz.prog.info? 45).map (fun i => (i.zero, i.size, i.bytes)) = some (some (.nilFunc), 1, 8) := by kernel_rfl
theorem sz45 : (Tryz.prog.info? 45).map (·.size) = some 1 := by kernel_rfl
theorem ze45 : (Tryz.prog.info? 45).map (·.zero) = some (some (.nilFunc)) := by kernel_rfl
theorem zs45 : (Tryz.prog.info? 45).map (fun i => (i.zero, i.size)) = some (some (.nilFunc), 1) := by kernel_rfl
theorem in47 : (Tryz.prog.info? 47).map (fun i => (i.zero, i.size, i.bytes)) = some (some (.nilFunc), 1, 8) := by kernel_rfl
theorem sz47 : (Tryz.prog.info? 47).map (·.size) = some 1 := by kernel_rfl
theorem ze47 : (Tryz.prog.info? 47).map (·.zero) = some (some (.nilFunc)) := by kernel_rfl
theorem zs47 : (Tryz.prog.info? 47).map (fun i => (i.zero, i.size)) = some (some (.nilFunc), 1) := by kernel_rfl
theorem in48 : (Tryz.prog.info? 48).map (fun i => (i.zero, i.size, i.bytes)) = some (some (.slice none 0 0), 1, 24) := by kernel_rfl
theorem sz48 : (Tryz.prog.info? 48).map (·.size) = some 1 := by kernel_rfl
theorem ze48 : (Tryz.prog.info? 48).map (·.zero) = some (some (.slice none 0 0)) := by kernel_rfl
theorem zs48 : (Tryz.prog.info? 48).map (fun i => (i.zero, i.size)) = some (some (.slice none 0 0), 1) := by kernel_rfl
theorem in49 : (Tryz.prog.info? 49).map (fun i => (i.zero, i.size, i.bytes)) = some (some (.nilFunc), 1, 8) := by kernel_rfl
theorem sz49 : (Tryz.prog.info? 49).map (·.size) = some 1 := by kernel_rfl
theorem ze49 : (Tryz.prog.info? 49).map (·.zero) = some (some (.nilFunc)) := by kernel_rfl
theorem zs49 : (Tryz.prog.info? 49).map (fun i => (i.zero, i.size)) = some (some (.nilFunc), 1) := by kernel_rfl
theorem in50 : (Tryz.prog.info? 50).map (fun i => (i.zero, i.size, i.bytes)) = some (some (.nilFunc), 1, 8) := by kernel_rfl
theorem sz50 : (Tryz.prog.info? 50).map (·.size) = some 1 := by kernel_rfl
theorem ze50 : (Tryz.prog.info? 50).map (·.zero) = some (some (.nilFunc)) := by kernel_rfl
theorem zs50 : (Tryz.prog.info? 50).map (fun i => (i.zero, i.size)) = some (some (.nilFunc), 1) := by kernel_rfl
theorem in51 : (Tryz.prog.info? 51).map (fun i => (i.zero, i.size, i.bytes)) = some (some (.nilFunc), 1, 8) := by kernel_rfl
theorem sz51 : (Tryz.prog.info? 51).map (·.size) = some 1 := by kernel_rfl
theorem ze51 : (Tryz.prog.info? 51).map (·.zero) = some (some (.nilFunc)) := by kernel_rfl
theorem zs51 : (Tryz.prog.info? 51).map (fun i => (i.zero, i.size)) = some (some (.nilFunc), 1) := by kernel_rfl
theorem in53 : (Tryz.prog.info? 53).map (fun i => (i.zero, i.size, i.bytes)) = some (some (.nilFunc), 1, 8) := by kernel_rfl
theorem sz53 : (Tryz.prog.info? 53).map (·.size) = some 1 := by kernel_rfl
theorem ze53 : (Tryz.prog.info? 53).map (·.zero) = some (some (.nilFunc)) := by kernel_rfl
theorem zs53 : (Tryz.prog.info? 53).map (fun i => (i.zero, i.size)) = some (some (.nilFunc), 1) := by kernel_rfl
theorem in54 : (Tryz.prog.info? 54).map (fun i => (i.zero, i.size, i.bytes)) = some (some (.nilFunc), 1, 8) := by kernel_rfl
theorem sz54 : (Tryz.prog.info? 54).map (·.size) = some 1 := by kernel_rfl
theorem ze54 : (Tryz.prog.info? 54).map (·.zero) = some (some (.nilFunc)) := by kernel_rfl
theorem zs54 : (Tryz.prog.info? 54).map (fun i => (i.zero, i.size)) = some (some (.nilFunc), 1) := by kernel_rfl
theorem in55 : (Tryz.prog.info? 55).map (fun i => (i.zero, i.size, i.bytes)) = some (some (.nilFunc), 1, 8) := by kernel_rfl
theorem sz55 : (Tryz.prog.info? 55).map (·.size) = some 1 := by kernel_rfl
theorem ze55 : (Tryz.prog.info? 55).map (·.zero) = some (some (.nilFunc)) := by kernel_rfl
theorem zs55 : (Tryz.prog.info? 55).map (fun i => (i.zero, i.size)) = some (some (.nilFunc), 1) := by kernel_rfl
theorem in56 : (Tryz.prog.info? 56).map (fun i => (i.zero, i.size, i.bytes)) = some (some (.nilFunc), 1, 8) := by kernel_rfl
theorem sz56 : (Tryz.prog.info? 56).map (·.size) = some 1 := by kernel_rfl
theorem ze56 : (Tryz.prog.info? 56).map (·.zero) = some (some (.nilFunc)) := by kernel_rfl
theorem zs56 : (Tryz.prog.info? 56).map (fun i => (i.zero, i.size)) = some (some (.nilFunc), 1) := by kernel_rfl
theorem in57 : (Tryz.prog.info? 57).map (fun i => (i.zero, i.size, i.bytes)) = some (some (.nilFunc), 1, 8) := by kernel_rfl
theorem sz57 : (Tryz.prog.info? 57).map (·.size) = some 1 := by kernel_rfl
theorem ze57 : (Tryz.prog.info? 57).map (·.zero) = some (some (.nilFunc)) := by kernel_rfl
theorem zs57 : (Tryz.prog.info? 57).map (fun i => (i.zero, i.size)) = some (some (.nilFunc), 1) := by kernel_rfl
theorem in58 : (Tryz.prog.info? 58).map (fun i => (i.zero, i.size, i.bytes)) = some (some (.nilFunc), 1, 8) := by kernel_rfl
theorem sz58 : (Tryz.prog.info? 58).map (·.size) = some 1 := by kernel_rfl
theorem ze58 : (Tryz.prog.info? 58).map (·.zero) = some (some (.nilFunc)) := by kernel_rfl
theorem zs58 : (Tryz.prog.info? 58).map (fun i => (i.zero, i.size)) = some (some (.nilFunc), 1) := by kernel_rfl
theorem in59 : (Tryz.prog.info? 59).map (fun i => (i.zero, i.size, i.bytes)) = some (some (.nilFunc), 1, 8) := by kernel_rfl
theorem sz59 : (Tryz.prog.info? 59).map (·.size) = some 1 := by kernel_rfl
theorem ze59 : (Tryz.prog.info? 59).map (·.zero) = some (some (.nilFunc)) := by kernel_rfl
theorem zs59 : (Tryz.prog.info? 59).map (fun i => (i.zero, i.size)) = some (some (.nilFunc), 1) := by kernel_rfl
theorem in60 : (Tryz.prog.info? 60).map (fun i => (i.zero, i.size, i.bytes)) = some (some (.nilFunc), 1, 8) := by kernel_rfl
theorem sz60 : (Tryz.prog.info? 60).map (·.size) = some 1 := by kernel_rfl
theorem ze60 : (Tryz.prog.info? 60).map (·.zero) = some (some (.nilFunc)) := by kernel_rfl
theorem zs60 : (Tryz.prog.info? 60).map (fun i => (i.zero, i.size)) = some (some (.nilFunc), 1) := by kernel_rfl
theorem in61 : (Tryz.prog.info? 61).map (fun i => (i.zero, i.size, i.bytes)) = some (some (.nilFunc), 1, 8) := by kernel_rfl
theorem sz61 : (Tryz.prog.info? 61).map (·.size) = some 1 := by kernel_rfl
theorem ze61 : (Tryz.prog.info? 61).map (·.zero) = some (some (.nilFunc)) := by kernel_rfl
theorem zs61 : (Tryz.prog.info? 61).map (fun i => (i.zero, i.size)) = some (some (.nilFunc), 1) := by kernel_rfl
theorem in62 : (Tryz.prog.info? 62).map (fun i => (i.zero, i.size, i.bytes)) = some (some (.agg #[.int .i64 0, .int .i64 0, .int .i64 0, .int .i64 0, .int .i64 0, .slice none 0 0, .slice none 0 0]), 7, 88) := by kernel_rfl
theorem sz62 : (Tryz.prog.info? 62).map (·.size) = some 7 := by kernel_rfl
theorem ze62 : (Tryz.prog.info? 62).map (·.zero) = some (some (.agg #[.int .i64 0, .int .i64 0, .int .i64 0, .int .i64 0, .int .i64 0, .slice none 0 0, .slice none 0 0])) := by kernel_rfl
theorem pl62 (w : World) : ((#[{ name := "Kind", type := 3, offset := 0, embedded := false, tag := "", pkgPath := "", byteOffset := 0 }, { name := "M", type := 36, offset := 1, embedded := false, tag := "", pkgPath := "", byteOffset := 8 }] : Array Field).mapM (m := Sem) fun f => do pure (f.offset, ← sizeOf f.type)).run Tryz.prog w = .ok #[(0, 1), (1, 6)] w := by kernel_rfl
theorem in63 : (Tryz.prog.info? 63).map (fun i => (i.zero, i.size, i.bytes)) = some (some (.agg #[.int .i64 0, .int .i64 0, .int .i64 0, .int .i64 0, .int .i64 0, .slice none 0 0, .slice none 0 0]), 7, 88) := by kernel_rfl
theorem sz63 : (Tryz.prog.info? 63).map (·.size) = some 7 := by kernel_rfl
theorem ze63 : (Tryz.prog.info? 63).map (·.zero) = some (some (.agg #[.int .i64 0, .int .i64 0, .int .i64 0, .int .i64 0, .int .i64 0, .slice none 0 0, .slice none 0 0])) := by kernel_rfl
theorem pl63 (w : World) : ((#[{ name := "Kind", type := 3, offset := 0, embedded := false, tag := "", pkgPath := "", byteOffset := 0 }, { name := "M", type := 36, offset := 1, embedded := false, tag := "", pkgPath := "", byteOffset := 8 }] : Array Field).mapM (m := Sem) fun f => do pure (f.offset, ← sizeOf f.type)).run Tryz.prog w = .ok #[(0, 1), (1, 6)] w := by kernel_rfl
theorem in64 : (Tryz.prog.info? 64).map (fun i => (i.zero, i.size, i.bytes)) = some (some (.slice none 0 0), 1, 24) := by kernel_rfl
theorem sz64 : (Tryz.prog.info? 64).map (·.size) = some 1 := by kernel_rfl
theorem ze64 : (Tryz.prog.info? 64).map (·.zero) = some (some (.slice none 0 0)) := by kernel_rfl
theorem zs64 : (Tryz.prog.info? 64).map (fun i => (i.zero, i.size)) = some (some (.slice none 0 0), 1) := by kernel_rfl
theorem in65 : (Tryz.prog.info? 65).map (fun i => (i.zero, i.size, i.bytes)) = some (some (.nilFunc), 1, 8) := by kernel_rfl
theorem sz65 : (Tryz.prog.info? 65).map (·.size) = some 1 := by kernel_rfl
theorem ze65 : (Tryz.prog.info? 65).map (·.zero) = some (some (.nilFunc)) := by kernel_rfl
theorem zs65 : (Tryz.prog.info? 65).map (fun i => (i.zero, i.size)) = some (some (.nilFunc), 1) := by kernel_rfl
theorem in66 : (Tryz.prog.info? 66).map (fun i => (i.zero, i.size, i.bytes)) = some (some (.nilFunc), 1, 8) := by kernel_rfl
theorem sz66 : (Tryz.prog.info? 66).map (·.size) = some 1 := by kernel_rfl
theorem ze66 : (Tryz.prog.info? 66).map (·.zero) = some (some (.nilFunc)) := by kernel_rfl
theorem zs66 : (Tryz.prog.info? 66).map (fun i => (i.zero, i.size)) = some (some (.nilFunc), 1) := by kernel_rfl
theorem in68 : (Tryz.prog.info? 68).map (fun i => (i.zero, i.size, i.bytes)) = some (some (.nilFunc), 1, 8) := by kernel_rfl
theorem sz68 : (Tryz.prog.info? 68).map (·.size) = some 1 := by kernel_rfl
theorem ze68 : (Tryz.prog.info? 68).map (·.zero) = some (some (.nilFunc)) := by kernel_rfl
theorem zs68 : (Tryz.prog.info? 68).map (fun i => (i.zero, i.size)) = some (some (.nilFunc), 1) := by kernel_rfl
theorem in69 : (Tryz.prog.info? 69).map (fun i => (i.zero, i.size, i.bytes)) = some (some (.nilFunc), 1, 8) := by kernel_rfl
theorem sz69 : (Tryz.prog.info? 69).map (·.size) = some 1 := by kernel_rfl
theorem ze69 : (Tryz.prog.info? 69).map (·.zero) = some (some (.nilFunc)) := by kernel_rfl
theorem zs69 : (Tryz.prog.info? 69).map (fun i => (i.zero, i.size)) = some (some (.nilFunc), 1) := by kernel_rfl
theorem in70 : (Tryz.prog.info? 70).map (fun i => (i.zero, i.size, i.bytes)) = some (some (.nilFunc), 1, 8) := by kernel_rfl
theorem sz70 : (Tryz.prog.info? 70).map (·.size) = some 1 := by kernel_rfl
theorem ze70 : (Tryz.prog.info? 70).map (·.zero) = some (some (.nilFunc)) := by kernel_rfl
theorem zs70 : (Tryz.prog.info? 70).map (fun i => (i.zero, i.size)) = some (some (.nilFunc), 1) := by kernel_rfl
theorem in71 : (Tryz.prog.info? 71).map (fun i => (i.zero, i.size, i.bytes)) = some (some (.slice none 0 0), 1, 24) := by kernel_rfl
theorem sz71 : (Tryz.prog.info? 71).map (·.size) = some 1 := by kernel_rfl
theorem ze71 : (Tryz.prog.info? 71).map (·.zero) = some (some (.slice none 0 0)) := by kernel_rfl
theorem zs71 : (Tryz.prog.info? 71).map (fun i => (i.zero, i.size)) = some (some (.slice none 0 0), 1) := by kernel_rfl
theorem in72 : (Tryz.prog.info? 72).map (fun i => (i.zero, i.size, i.bytes)) = some (some (.pointer none), 1, 8) := by kernel_rfl
theorem sz72 : (Tryz.prog.info? 72).map (·.size) = some 1 := by kernel_rfl
theorem ze72 : (Tryz.prog.info? 72).map (·.zero) = some (some (.pointer none)) := by kernel_rfl
theorem zs72 : (Tryz.prog.info? 72).map (fun i => (i.zero, i.size)) = some (some (.pointer none), 1) := by kernel_rfl
theorem in73 : (Tryz.prog.info? 73).map (fun i => (i.zero, i.size, i.bytes)) = some (some (.slice none 0 0), 1, 24) := by kernel_rfl
theorem sz73 : (Tryz.prog.info? 73).map (·.size) = some 1 := by kernel_rfl
theorem ze73 : (Tryz.prog.info? 73).map (·.zero) = some (some (.slice none 0 0)) := by kernel_rfl
theorem zs73 : (Tryz.prog.info? 73).map (fun i => (i.zero, i.size)) = some (some (.slice none 0 0), 1) := by kernel_rfl
theorem in74 : (Tryz.prog.info? 74).map (fun i => (i.zero, i.size, i.bytes)) = some (some (.agg #[.slice none 0 0]), 1, 24) := by kernel_rfl
theorem sz74 : (Tryz.prog.info? 74).map (·.size) = some 1 := by kernel_rfl
theorem ze74 : (Tryz.prog.info? 74).map (·.zero) = some (some (.agg #[.slice none 0 0])) := by kernel_rfl
theorem zs74 : (Tryz.prog.info? 74).map (fun i => (i.zero, i.size)) = some (some (.agg #[.slice none 0 0]), 1) := by kernel_rfl
theorem pl74 (w : World) : ((#[{ name := "Segs", type := 73, offset := 0, embedded := false, tag := "", pkgPath := "", byteOffset := 0 }] : Array Field).mapM (m := Sem) fun f => do pure (f.offset, ← sizeOf f.type)).run Tryz.prog w = .ok #[(0, 1)] w := by kernel_rfl
theorem in75 : (Tryz.prog.info? 75).map (fun i => (i.zero, i.size, i.bytes)) = some (some (.agg #[.slice none 0 0]), 1, 24) := by kernel_rfl
theorem sz75 : (Tryz.prog.info? 75).map (·.size) = some 1 := by kernel_rfl
theorem ze75 : (Tryz.prog.info? 75).map (·.zero) = some (some (.agg #[.slice none 0 0])) := by kernel_rfl
theorem zs75 : (Tryz.prog.info? 75).map (fun i => (i.zero, i.size)) = some (some (.agg #[.slice none 0 0]), 1) := by kernel_rfl
theorem pl75 (w : World) : ((#[{ name := "Segs", type := 73, offset := 0, embedded := false, tag := "", pkgPath := "", byteOffset := 0 }] : Array Field).mapM (m := Sem) fun f => do pure (f.offset, ← sizeOf f.type)).run Tryz.prog w = .ok #[(0, 1)] w := by kernel_rfl
theorem in76 : (Tryz.prog.info? 76).map (fun i => (i.zero, i.size, i.bytes)) = some (some (.nilFunc), 1, 8) := by kernel_rfl
theorem sz76 : (Tryz.prog.info? 76).map (·.size) = some 1 := by kernel_rfl
theorem ze76 : (Tryz.prog.info? 76).map (·.zero) = some (some (.nilFunc)) := by kernel_rfl
theorem zs76 : (Tryz.prog.info? 76).map (fun i => (i.zero, i.size)) = some (some (.nilFunc), 1) := by kernel_rfl
theorem in77 : (Tryz.prog.info? 77).map (fun i => (i.zero, i.size, i.bytes)) = some (some (.nilFunc), 1, 8) := by kernel_rfl
theorem sz77 : (Tryz.prog.info? 77).map (·.size) = some 1 := by kernel_rfl
theorem ze77 : (Tryz.prog.info? 77).map (·.zero) = some (some (.nilFunc)) := by kernel_rfl
theorem zs77 : (Tryz.prog.info? 77).map (fun i => (i.zero, i.size)) = some (some (.nilFunc), 1) := by kernel_rfl
theorem in78 : (Tryz.prog.info? 78).map (fun i => (i.zero, i.size, i.bytes)) = some (some (.agg #[.int .i64 0, .bool false, .int .i64 0]), 3, 24) := by kernel_rfl
theorem sz78 : (Tryz.prog.info? 78).map (·.size) = some 3 := by kernel_rfl
theorem ze78 : (Tryz.prog.info? 78).map (·.zero) = some (some (.agg #[.int .i64 0, .bool false, .int .i64 0])) := by kernel_rfl
theorem pl78 (w : World) : ((#[{ name := "Code", type := 3, offset := 0, embedded := false, tag := "", pkgPath := "", byteOffset := 0 }, { name := "Placed", type := 4, offset := 1, embedded := false, tag := "", pkgPath := "", byteOffset := 8 }, { name := "Pos", type := 3, offset := 2, embedded := false, tag := "", pkgPath := "", byteOffset := 16 }] : Array Field).mapM (m := Sem) fun f => do pure (f.offset, ← sizeOf f.type)).run Tryz.prog w = .ok #[(0, 1), (1, 1), (2, 1)] w := by kernel_rfl
theorem in79 : (Tryz.prog.info? 79).map (fun i => (i.zero, i.size, i.bytes)) = some (some (.agg #[.int .i64 0, .bool false, .int .i64 0]), 3, 24) := by kernel_rfl
theorem sz79 : (Tryz.prog.info? 79).map (·.size) = some 3 := by kernel_rfl
theorem ze79 : (Tryz.prog.info? 79).map (·.zero) = some (some (.agg #[.int .i64 0, .bool false, .int .i64 0])) := by kernel_rfl
theorem pl79 (w : World) : ((#[{ name := "Code", type := 3, offset := 0, embedded := false, tag := "", pkgPath := "", byteOffset := 0 }, { name := "Placed", type := 4, offset := 1, embedded := false, tag := "", pkgPath := "", byteOffset := 8 }, { name := "Pos", type := 3, offset := 2, embedded := false, tag := "", pkgPath := "", byteOffset := 16 }] : Array Field).mapM (m := Sem) fun f => do pure (f.offset, ← sizeOf f.type)).run Tryz.prog w = .ok #[(0, 1), (1, 1), (2, 1)] w := by kernel_rfl
theorem in80 : (Tryz.prog.info? 80).map (fun i => (i.zero, i.size, i.bytes)) = some (some (.nilFunc), 1, 8) := by kernel_rfl
theorem sz80 : (Tryz.prog.info? 80).map (·.size) = some 1 := by kernel_rfl
theorem ze80 : (Tryz.prog.info? 80).map (·.zero) = some (some (.nilFunc)) := by kernel_rfl
theorem zs80 : (Tryz.prog.info? 80).map (fun i => (i.zero, i.size)) = some (some (.nilFunc), 1) := by kernel_rfl
theorem in81 : (Tryz.prog.info? 81).map (fun i => (i.zero, i.size, i.bytes)) = some (some (.nilFunc), 1, 8) := by kernel_rfl
theorem sz81 : (Tryz.prog.info? 81).map (·.size) = some 1 := by kernel_rfl
theorem ze81 : (Tryz.prog.info? 81).map (·.zero) = some (some (.nilFunc)) := by kernel_rfl
theorem zs81 : (Tryz.prog.info? 81).map (fun i => (i.zero, i.size)) = some (some (.nilFunc), 1) := by kernel_rfl
theorem in82 : (Tryz.prog.info? 82).map (fun i => (i.zero, i.size, i.bytes)) = some (some (.nilFunc), 1, 8) := by kernel_rfl
theorem sz82 : (Tryz.prog.info? 82).map (·.size) = some 1 := by kernel_rfl
theorem ze82 : (Tryz.prog.info? 82).map (·.zero) = some (some (.nilFunc)) := by kernel_rfl
theorem zs82 : (Tryz.prog.info? 82).map (fun i => (i.zero, i.size)) = some (some (.nilFunc), 1) := by kernel_rfl
theorem in83 : (Tryz.prog.info? 83).map (fun i => (i.zero, i.size, i.bytes)) = some (some (.nilFunc), 1, 8) := by kernel_rfl
theorem sz83 : (Tryz.prog.info? 83).map (·.size) = some 1 := by kernel_rfl
theorem ze83 : (Tryz.prog.info? 83).map (·.zero) = some (some (.nilFunc)) := by kernel_rfl
theorem zs83 : (Tryz.prog.info? 83).map (fun i => (i.zero, i.size)) = some (some (.nilFunc), 1) := by kernel_rfl
theorem in84 : (Tryz.prog.info? 84).map (fun i => (i.zero, i.size, i.bytes)) = some (some (.slice none 0 0), 1, 24) := by kernel_rfl
theorem sz84 : (Tryz.prog.info? 84).map (·.size) = some 1 := by kernel_rfl
theorem ze84 : (Tryz.prog.info? 84).map (·.zero) = some (some (.slice none 0 0)) := by kernel_rfl
theorem zs84 : (Tryz.prog.info? 84).map (fun i => (i.zero, i.size)) = some (some (.slice none 0 0), 1) := by kernel_rfl
theorem in85 : (Tryz.prog.info? 85).map (fun i => (i.zero, i.size, i.bytes)) = some (some (.pointer none), 1, 8) := by kernel_rfl
theorem sz85 : (Tryz.prog.info? 85).map (·.size) = some 1 := by kernel_rfl
theorem ze85 : (Tryz.prog.info? 85).map (·.zero) = some (some (.pointer none)) := by kernel_rfl
theorem zs85 : (Tryz.prog.info? 85).map (fun i => (i.zero, i.size)) = some (some (.pointer none), 1) := by kernel_rfl
theorem in86 : (Tryz.prog.info? 86).map (fun i => (i.zero, i.size, i.bytes)) = some (some (.slice none 0 0), 1, 24) := by kernel_rfl
theorem sz86 : (Tryz.prog.info? 86).map (·.size) = some 1 := by kernel_rfl
theorem ze86 : (Tryz.prog.info? 86).map (·.zero) = some (some (.slice none 0 0)) := by kernel_rfl
theorem zs86 : (Tryz.prog.info? 86).map (fun i => (i.zero, i.size)) = some (some (.slice none 0 0), 1) := by kernel_rfl
theorem in87 : (Tryz.prog.info? 87).map (fun i => (i.zero, i.size, i.bytes)) = some (some (.slice none 0 0), 1, 24) := by kernel_rfl
theorem sz87 : (Tryz.prog.info? 87).map (·.size) = some 1 := by kernel_rfl
theorem ze87 : (Tryz.prog.info? 87).map (·.zero) = some (some (.slice none 0 0)) := by kernel_rfl
theorem zs87 : (Tryz.prog.info? 87).map (fun i => (i.zero, i.size)) = some (some (.slice none 0 0), 1) := by kernel_rfl
theorem in88 : (Tryz.prog.info? 88).map (fun i => (i.zero, i.size, i.bytes)) = some (some (.agg #[.slice none 0 0, .slice none 0 0, .int .i64 0, .slice none 0 0, .int .i64 0, .int .i64 0, .int .i64 0]), 7, 104) := by kernel_rfl
theorem sz88 : (Tryz.prog.info? 88).map (·.size) = some 7 := by kernel_rfl
theorem ze88 : (Tryz.prog.info? 88).map (·.zero) = some (some (.agg #[.slice none 0 0, .slice none 0 0, .int .i64 0, .slice none 0 0, .int .i64 0, .int .i64 0, .int .i64 0])) := by kernel_rfl
theorem pl88 (w : World) : ((#[{ name := "Items", type := 86, offset := 0, embedded := false, tag := "", pkgPath := "", byteOffset := 0 }, { name := "Ups", type := 87, offset := 1, embedded := false, tag := "", pkgPath := "", byteOffset := 24 }, { name := "Last", type := 3, offset := 2, embedded := false, tag := "", pkgPath := "", byteOffset := 48 }, { name := "Outs", type := 22, offset := 3, embedded := false, tag := "", pkgPath := "", byteOffset := 56 }, { name := "Calls", type := 3, offset := 4, embedded := false, tag := "", pkgPath := "", byteOffset := 80 }, { name := "Failed", type := 3, offset := 5, embedded := false, tag := "", pkgPath := "", byteOffset := 88 }, { name := "Outcome", type := 3, offset := 6, embedded := false, tag := "", pkgPath := "", byteOffset := 96 }] : Array Field).mapM (m := Sem) fun f => do pure (f.offset, ← sizeOf f.type)).run Tryz.prog w = .ok #[(0, 1), (1, 1), (2, 1), (3, 1), (4, 1), (5, 1), (6, 1)] w := by kernel_rfl
theorem in89 : (Tryz.prog.info? 89).map (fun i => (i.zero, i.size, i.bytes)) = some (some (.agg #[.slice none 0 0, .slice none 0 0, .int .i64 0, .slice none 0 0, .int .i64 0, .int .i64 0, .int .i64 0]), 7, 104) := by kernel_rfl
theorem sz89 : (Tryz.prog.info? 89).map (·.size) = some 7 := by kernel_rfl
theorem ze89 : (Tryz.prog.info? 89).map (·.zero) = some (some (.agg #[.slice none 0 0, .slice none 0 0, .int .i64 0, .slice none 0 0, .int .i64 0, .int .i64 0, .int .i64 0])) := by kernel_rfl
theorem pl89 (w : World) : ((#[{ name := "Items", type := 86, offset := 0, embedded := false, tag := "", pkgPath := "", byteOffset := 0 }, { name := "Ups", type := 87, offset := 1, embedded := false, tag := "", pkgPath := "", byteOffset := 24 }, { name := "Last", type := 3, offset := 2, embedded := false, tag := "", pkgPath := "", byteOffset := 48 }, { name := "Outs", type := 22, offset := 3, embedded := false, tag := "", pkgPath := "", byteOffset := 56 }, { name := "Calls", type := 3, offset := 4, embedded := false, tag := "", pkgPath := "", byteOffset := 80 }, { name := "Failed", type := 3, offset := 5, embedded := false, tag := "", pkgPath := "", byteOffset := 88 }, { name := "Outcome", type := 3, offset := 6, embedded := false, tag := "", pkgPath := "", byteOffset := 96 }] : Array Field).mapM (m := Sem) fun f => do pure (f.offset, ← sizeOf f.type)).run Tryz.prog w = .ok #[(0, 1), (1, 1), (2, 1), (3, 1), (4, 1), (5, 1), (6, 1)] w := by kernel_rfl
theorem in90 : (Tryz.prog.info? 90).map (fun i => (i.zero, i.size, i.bytes)) = some (some (.agg #[.int .i64 0, .int .i64 0, .int .i64 0, .string ByteArray.empty, .slice none 0 0, .slice none 0 0]), 6, 88) := by kernel_rfl
theorem sz90 : (Tryz.prog.info? 90).map (·.size) = some 6 := by kernel_rfl
theorem ze90 : (Tryz.prog.info? 90).map (·.zero) = some (some (.agg #[.int .i64 0, .int .i64 0, .int .i64 0, .string ByteArray.empty, .slice none 0 0, .slice none 0 0])) := by kernel_rfl
theorem pl90 (w : World) : ((#[{ name := "Kind", type := 3, offset := 0, embedded := false, tag := "", pkgPath := "", byteOffset := 0 }, { name := "A", type := 3, offset := 1, embedded := false, tag := "", pkgPath := "", byteOffset := 8 }, { name := "B", type := 3, offset := 2, embedded := false, tag := "", pkgPath := "", byteOffset := 16 }, { name := "Name", type := 9, offset := 3, embedded := false, tag := "", pkgPath := "", byteOffset := 24 }, { name := "Bytes", type := 64, offset := 4, embedded := false, tag := "", pkgPath := "", byteOffset := 40 }, { name := "Outs", type := 22, offset := 5, embedded := false, tag := "", pkgPath := "", byteOffset := 64 }] : Array Field).mapM (m := Sem) fun f => do pure (f.offset, ← sizeOf f.type)).run Tryz.prog w = .ok #[(0, 1), (1, 1), (2, 1), (3, 1), (4, 1), (5, 1)] w := by kernel_rfl
theorem in91 : (Tryz.prog.info? 91).map (fun i => (i.zero, i.size, i.bytes)) = some (some (.agg #[.int .i64 0, .int .i64 0, .int .i64 0, .string ByteArray.empty, .slice none 0 0, .slice none 0 0]), 6, 88) := by kernel_rfl
theorem sz91 : (Tryz.prog.info? 91).map (·.size) = some 6 := by kernel_rfl
theorem ze91 : (Tryz.prog.info? 91).map (·.zero) = some (some (.agg #[.int .i64 0, .int .i64 0, .int .i64 0, .string ByteArray.empty, .slice none 0 0, .slice none 0 0])) := by kernel_rfl
theorem pl91 (w : World) : ((#[{ name := "Kind", type := 3, offset := 0, embedded := false, tag := "", pkgPath := "", byteOffset := 0 }, { name := "A", type := 3, offset := 1, embedded := false, tag := "", pkgPath := "", byteOffset := 8 }, { name := "B", type := 3, offset := 2, embedded := false, tag := "", pkgPath := "", byteOffset := 16 }, { name := "Name", type := 9, offset := 3, embedded := false, tag := "", pkgPath := "", byteOffset := 24 }, { name := "Bytes", type := 64, offset := 4, embedded := false, tag := "", pkgPath := "", byteOffset := 40 }, { name := "Outs", type := 22, offset := 5, embedded := false, tag := "", pkgPath := "", byteOffset := 64 }] : Array Field).mapM (m := Sem) fun f => do pure (f.offset, ← sizeOf f.type)).run Tryz.prog w = .ok #[(0, 1), (1, 1), (2, 1), (3, 1), (4, 1), (5, 1)] w := by kernel_rfl
theorem in92 : (Tryz.prog.info? 92).map (fun i => (i.zero, i.size, i.bytes)) = some (some (.nilFunc), 1, 8) := by kernel_rfl
theorem sz92 : (Tryz.prog.info? 92).map (·.size) = some 1 := by kernel_rfl
theorem ze92 : (Tryz.prog.info? 92).map (·.zero) = some (some (.nilFunc)) := by kernel_rfl
theorem zs92 : (Tryz.prog.info? 92).map (fun i => (i.zero, i.size)) = some (some (.nilFunc), 1) := by kernel_rfl
theorem in94 : (Tryz.prog.info? 94).map (fun i => (i.zero, i.size, i.bytes)) = some (some (.nilFunc), 1, 8) := by kernel_rfl
theorem sz94 : (Tryz.prog.info? 94).map (·.size) = some 1 := by kernel_rfl
theorem ze94 : (Tryz.prog.info? 94).map (·.zero) = some (some (.nilFunc)) := by kernel_rfl
theorem zs94 : (Tryz.prog.info? 94).map (fun i => (i.zero, i.size)) = some (some (.nilFunc), 1) := by kernel_rfl
theorem in96 : (Tryz.prog.info? 96).map (fun i => (i.zero, i.size, i.bytes)) = some (some (.nilFunc), 1, 8) := by kernel_rfl
theorem sz96 : (Tryz.prog.info? 96).map (·.size) = some 1 := by kernel_rfl
theorem ze96 : (Tryz.prog.info? 96).map (·.zero) = some (some (.nilFunc)) := by kernel_rfl
theorem zs96 : (Tryz.prog.info? 96).map (fun i => (i.zero, i.size)) = some (some (.nilFunc), 1) := by kernel_rfl
theorem in98 : (Tryz.prog.info? 98).map (fun i => (i.zero, i.size, i.bytes)) = some (some (.nilFunc), 1, 8) := by kernel_rfl
theorem sz98 : (Tryz.prog.info? 98).map (·.size) = some 1 := by kernel_rfl
theorem ze98 : (Tryz.prog.info? 98).map (·.zero) = some (some (.nilFunc)) := by kernel_rfl
theorem zs98 : (Tryz.prog.info? 98).map (fun i => (i.zero, i.size)) = some (some (.nilFunc), 1) := by kernel_rfl
theorem in100 : (Tryz.prog.info? 100).map (fun i => (i.zero, i.size, i.bytes)) = some (some (.nilFunc), 1, 8) := by kernel_rfl
theorem sz100 : (Tryz.prog.info? 100).map (·.size) = some 1 := by kernel_rfl
theorem ze100 : (Tryz.prog.info? 100).map (·.zero) = some (some (.nilFunc)) := by kernel_rfl
theorem zs100 : (Tryz.prog.info? 100).map (fun i => (i.zero, i.size)) = some (some (.nilFunc), 1) := by kernel_rfl
theorem in102 : (Tryz.prog.info? 102).map (fun i => (i.zero, i.size, i.bytes)) = some (some (.nilFunc), 1, 8) := by kernel_rfl
theorem sz102 : (Tryz.prog.info? 102).map (·.size) = some 1 := by kernel_rfl
theorem ze102 : (Tryz.prog.info? 102).map (·.zero) = some (some (.nilFunc)) := by kernel_rfl
theorem zs102 : (Tryz.prog.info? 102).map (fun i => (i.zero, i.size)) = some (some (.nilFunc), 1) := by kernel_rfl
theorem in104 : (Tryz.prog.info? 104).map (fun i => (i.zero, i.size, i.bytes)) = some (some (.nilFunc), 1, 8) := by kernel_rfl
theorem sz104 : (Tryz.prog.info? 104).map (·.size) = some 1 := by kernel_rfl
theorem ze104 : (Tryz.prog.info? 104).map (·.zero) = some (some (.nilFunc)) := by kernel_rfl
theorem zs104 : (Tryz.prog.info? 104).map (fun i => (i.zero, i.size)) = some (some (.nilFunc), 1) := by kernel_rfl
theorem in105 : (Tryz.prog.info? 105).map (fun i => (i.zero, i.size, i.bytes)) = some (some (.nilFunc), 1, 8) := by kernel_rfl
theorem sz105 : (Tryz.prog.info? 105).map (·.size) = some 1 := by kernel_rfl
theorem ze105 : (Tryz.prog.info? 105).map (·.zero) = some (some (.nilFunc)) := by kernel_rfl
theorem zs105 : (Tryz.prog.info? 105).map (fun i => (i.zero, i.size)) = some (some (.nilFunc), 1) := by kernel_rfl
theorem in106 : (Tryz.prog.info? 106).map (fun i => (i.zero, i.size, i.bytes)) = some (some (.nilFunc), 1, 8) := by kernel_rfl
theorem sz106 : (Tryz.prog.info? 106).map (·.size) = some 1 := by kernel_rfl
theorem ze106 : (Tryz.prog.info? 106).map (·.zero) = some (some (.nilFunc)) := by kernel_rfl
theorem zs106 : (Tryz.prog.info? 106).map (fun i => (i.zero, i.size)) = some (some (.nilFunc), 1) := by kernel_rfl
theorem in108 : (Tryz.prog.info? 108).map (fun i => (i.zero, i.size, i.bytes)) = some (some (.nilFunc), 1, 8) := by kernel_rfl
theorem sz108 : (Tryz.prog.info? 108).map (·.size) = some 1 := by kernel_rfl
theorem ze108 : (Tryz.prog.info? 108).map (·.zero) = some (some (.nilFunc)) := by kernel_rfl
theorem zs108 : (Tryz.prog.info? 108).map (fun i => (i.zero, i.size)) = some (some (.nilFunc), 1) := by kernel_rfl
theorem in109 : (Tryz.prog.info? 109).map (fun i => (i.zero, i.size, i.bytes)) = some (some (.nilFunc), 1, 8) := by kernel_rfl
theorem sz109 : (Tryz.prog.info? 109).map (·.size) = some 1 := by kernel_rfl
theorem ze109 : (Tryz.prog.info? 109).map (·.zero) = some (some (.nilFunc)) := by kernel_rfl
theorem zs109 : (Tryz.prog.info? 109).map (fun i => (i.zero, i.size)) = some (some (.nilFunc), 1) := by kernel_rfl
theorem in110 : (Tryz.prog.info? 110).map (fun i => (i.zero, i.size, i.bytes)) = some (some (.nilFunc), 1, 8) := by kernel_rfl
theorem sz110 : (Tryz.prog.info? 110).map (·.size) = some 1 := by kernel_rfl
theorem ze110 : (Tryz.prog.info? 110).map (·.zero) = some (some (.nilFunc)) := by kernel_rfl
theorem zs110 : (Tryz.prog.info? 110).map (fun i => (i.zero, i.size)) = some (some (.nilFunc), 1) := by kernel_rfl
theorem in111 : (Tryz.prog.info? 111).map (fun i => (i.zero, i.size, i.bytes)) = some (some (.nilFunc), 1, 8) := by kernel_rfl
theorem sz111 : (Tryz.prog.info? 111).map (·.size) = some 1 := by kernel_rfl
theorem ze111 : (Tryz.prog.info? 111).map (·.zero) = some (some (.nilFunc)) := by kernel_rfl
theorem zs111 : (Tryz.prog.info? 111).map (fun i => (i.zero, i.size)) = some (some (.nilFunc), 1) := by kernel_rfl
theorem in112 : (Tryz.prog.info? 112).map (fun i => (i.zero, i.size, i.bytes)) = some (some (.nilFunc), 1, 8) := by kernel_rfl
theorem sz112 : (Tryz.prog.info? 112).map (·.size) = some 1 := by kernel_rfl
theorem ze112 : (Tryz.prog.info? 112).map (·.zero) = some (some (.nilFunc)) := by kernel_rfl
theorem zs112 : (Tryz.prog.info? 112).map (fun i => (i.zero, i.size)) = some (some (.nilFunc), 1) := by kernel_rfl
theorem in113 : (Tryz.prog.info? 113).map (fun i => (i.zero, i.size, i.bytes)) = some (some (.nilFunc), 1, 8) := by kernel_rfl
theorem sz113 : (Tryz.prog.info? 113).map (·.size) = some 1 := by kernel_rfl
theorem ze113 : (Tryz.prog.info? 113).map (·.zero) = some (some (.nilFunc)) := by kernel_rfl
theorem zs113 : (Tryz.prog.info? 113).map (fun i => (i.zero, i.size)) = some (some (.nilFunc), 1) := by kernel_rfl
theorem in115 : (Tryz.prog.info? 115).map (fun i => (i.zero, i.size, i.bytes)) = some (some (.nilFunc), 1, 8) := by kernel_rfl
theorem sz115 : (Tryz.prog.info? 115).map (·.size) = some 1 := by kernel_rfl
theorem ze115 : (Tryz.prog.info? 115).map (·.zero) = some (some (.nilFunc)) := by kernel_rfl
theorem zs115 : (Tryz.prog.info? 115).map (fun i => (i.zero, i.size)) = some (some (.nilFunc), 1) := by kernel_rfl
theorem in117 : (Tryz.prog.info? 117).map (fun i => (i.zero, i.size, i.bytes)) = some (some (.nilFunc), 1, 8) := by kernel_rfl
theorem sz117 : (Tryz.prog.info? 117).map (·.size) = some 1 := by kernel_rfl
theorem ze117 : (Tryz.prog.info? 117).map (·.zero) = some (some (.nilFunc)) := by kernel_rfl
theorem zs117 : (Tryz.prog.info? 117).map (fun i => (i.zero, i.size)) = some (some (.nilFunc), 1) := by kernel_rfl
theorem in118 : (Tryz.prog.info? 118).map (fun i => (i.zero, i.size, i.bytes)) = some (some (.nilFunc), 1, 8) := by kernel_rfl
theorem sz118 : (Tryz.prog.info? 118).map (·.size) = some 1 := by kernel_rfl
theorem ze118 : (Tryz.prog.info? 118).map (·.zero) = some (some (.nilFunc)) := by kernel_rfl
theorem zs118 : (Tryz.prog.info? 118).map (fun i => (i.zero, i.size)) = some (some (.nilFunc), 1) := by kernel_rfl
theorem in119 : (Tryz.prog.info? 119).map (fun i => (i.zero, i.size, i.bytes)) = some (some (.nilFunc), 1, 8) := by kernel_rfl
theorem sz119 : (Tryz.prog.info? 119).map (·.size) = some 1 := by kernel_rfl
theorem ze119 : (Tryz.prog.info? 119).map (·.zero) = some (some (.nilFunc)) := by kernel_rfl
theorem zs119 : (Tryz.prog.info? 119).map (fun i => (i.zero, i.size)) = some (some (.nilFunc), 1) := by kernel_rfl
theorem in120 : (Tryz.prog.info? 120).map (fun i => (i.zero, i.size, i.bytes)) = some (some (.nilFunc), 1, 8) := by kernel_rfl
theorem sz120 : (Tryz.prog.info? 120).map (·.size) = some 1 := by kernel_rfl
theorem ze120 : (Tryz.prog.info? 120).map (·.zero) = some (some (.nilFunc)) := by kernel_rfl
theorem zs120 : (Tryz.prog.info? 120).map (fun i => (i.zero, i.size)) = some (some (.nilFunc), 1) := by kernel_rfl
theorem in121 : (Tryz.prog.info? 121).map (fun i => (i.zero, i.size, i.bytes)) = some (some (.slice none 0 0), 1, 24) := by kernel_rfl
theorem sz121 : (Tryz.prog.info? 121).map (·.size) = some 1 := by kernel_rfl
theorem ze121 : (Tryz.prog.info? 121).map (·.zero) = some (some (.slice none 0 0)) := by kernel_rfl
theorem zs121 : (Tryz.prog.info? 121).map (fun i => (i.zero, i.size)) = some (some (.slice none 0 0), 1) := by kernel_rfl
theorem in122 : (Tryz.prog.info? 122).map (fun i => (i.zero, i.size, i.bytes)) = some (some (.pointer none), 1, 8) := by kernel_rfl
theorem sz122 : (Tryz.prog.info? 122).map (·.size) = some 1 := by kernel_rfl
theorem ze122 : (Tryz.prog.info? 122).map (·.zero) = some (some (.pointer none)) := by kernel_rfl
theorem zs122 : (Tryz.prog.info? 122).map (fun i => (i.zero, i.size)) = some (some (.pointer none), 1) := by kernel_rfl
theorem in123 : (Tryz.prog.info? 123).map (fun i => (i.zero, i.size, i.bytes)) = some (some (.agg #[.pointer none, .int .i64 0, .int .i64 0]), 3, 24) := by kernel_rfl
theorem sz123 : (Tryz.prog.info? 123).map (·.size) = some 3 := by kernel_rfl
theorem ze123 : (Tryz.prog.info? 123).map (·.zero) = some (some (.agg #[.pointer none, .int .i64 0, .int .i64 0])) := by kernel_rfl
theorem pl123 (w : World) : ((#[{ name := "S", type := 85, offset := 0, embedded := false, tag := "", pkgPath := "", byteOffset := 0 }, { name := "Tries", type := 3, offset := 1, embedded := false, tag := "", pkgPath := "", byteOffset := 8 }, { name := "Asked", type := 3, offset := 2, embedded := false, tag := "", pkgPath := "", byteOffset := 16 }] : Array Field).mapM (m := Sem) fun f => do pure (f.offset, ← sizeOf f.type)).run Tryz.prog w = .ok #[(0, 1), (1, 1), (2, 1)] w := by kernel_rfl
theorem in124 : (Tryz.prog.info? 124).map (fun i => (i.zero, i.size, i.bytes)) = some (some (.agg #[.pointer none, .int .i64 0, .int .i64 0]), 3, 24) := by kernel_rfl
theorem sz124 : (Tryz.prog.info? 124).map (·.size) = some 3 := by kernel_rfl
theorem ze124 : (Tryz.prog.info? 124).map (·.zero) = some (some (.agg #[.pointer none, .int .i64 0, .int .i64 0])) := by kernel_rfl
theorem pl124 (w : World) : ((#[{ name := "S", type := 85, offset := 0, embedded := false, tag := "", pkgPath := "", byteOffset := 0 }, { name := "Tries", type := 3, offset := 1, embedded := false, tag := "", pkgPath := "", byteOffset := 8 }, { name := "Asked", type := 3, offset := 2, embedded := false, tag := "", pkgPath := "", byteOffset := 16 }] : Array Field).mapM (m := Sem) fun f => do pure (f.offset, ← sizeOf f.type)).run Tryz.prog w = .ok #[(0, 1), (1, 1), (2, 1)] w := by kernel_rfl
theorem in125 : (Tryz.prog.info? 125).map (fun i => (i.zero, i.size, i.bytes)) = some (some (.agg #[.int .i64 0, .int .i64 0, .int .i64 0, .int .i64 0, .int .u32 0, .string ByteArray.empty, .slice none 0 0, .slice none 0 0]), 8, 104) := by kernel_rfl
theorem sz125 : (Tryz.prog.info? 125).map (·.size) = some 8 := by kernel_rfl
theorem ze125 : (Tryz.prog.info? 125).map (·.zero) = some (some (.agg #[.int .i64 0, .int .i64 0, .int .i64 0, .int .i64 0, .int .u32 0, .string ByteArray.empty, .slice none 0 0, .slice none 0 0])) := by kernel_rfl
theorem pl125 (w : World) : ((#[{ name := "Kind", type := 3, offset := 0, embedded := false, tag := "", pkgPath := "", byteOffset := 0 }, { name := "A", type := 3, offset := 1, embedded := false, tag := "", pkgPath := "", byteOffset := 8 }, { name := "B", type := 3, offset := 2, embedded := false, tag := "", pkgPath := "", byteOffset := 16 }, { name := "Size", type := 3, offset := 3, embedded := false, tag := "", pkgPath := "", byteOffset := 24 }, { name := "Sum", type := 39, offset := 4, embedded := false, tag := "", pkgPath := "", byteOffset := 32 }, { name := "Name", type := 9, offset := 5, embedded := false, tag := "", pkgPath := "", byteOffset := 40 }, { name := "Bytes", type := 64, offset := 6, embedded := false, tag := "", pkgPath := "", byteOffset := 56 }, { name := "Outs", type := 22, offset := 7, embedded := false, tag := "", pkgPath := "", byteOffset := 80 }] : Array Field).mapM (m := Sem) fun f => do pure (f.offset, ← sizeOf f.type)).run Tryz.prog w = .ok #[(0, 1), (1, 1), (2, 1), (3, 1), (4, 1), (5, 1), (6, 1), (7, 1)] w := by kernel_rfl
theorem in126 : (Tryz.prog.info? 126).map (fun i => (i.zero, i.size, i.bytes)) = some (some (.agg #[.int .i64 0, .int .i64 0, .int .i64 0, .int .i64 0, .int .u32 0, .string ByteArray.empty, .slice none 0 0, .slice none 0 0]), 8, 104) := by kernel_rfl
theorem sz126 : (Tryz.prog.info? 126).map (·.size) = some 8 := by kernel_rfl
theorem ze126 : (Tryz.prog.info? 126).map (·.zero) = some (some (.agg #[.int .i64 0, .int .i64 0, .int .i64 0, .int .i64 0, .int .u32 0, .string ByteArray.empty, .slice none 0 0, .slice none 0 0])) := by kernel_rfl
theorem pl126 (w : World) : ((#[{ name := "Kind", type := 3, offset := 0, embedded := false, tag := "", pkgPath := "", byteOffset := 0 }, { name := "A", type := 3, offset := 1, embedded := false, tag := "", pkgPath := "", byteOffset := 8 }, { name := "B", type := 3, offset := 2, embedded := false, tag := "", pkgPath := "", byteOffset := 16 }, { name := "Size", type := 3, offset := 3, embedded := false, tag := "", pkgPath := "", byteOffset := 24 }, { name := "Sum", type := 39, offset := 4, embedded := false, tag := "", pkgPath := "", byteOffset := 32 }, { name := "Name", type := 9, offset := 5, embedded := false, tag := "", pkgPath := "", byteOffset := 40 }, { name := "Bytes", type := 64, offset := 6, embedded := false, tag := "", pkgPath := "", byteOffset := 56 }, { name := "Outs", type := 22, offset := 7, embedded := false, tag := "", pkgPath := "", byteOffset := 80 }] : Array Field).mapM (m := Sem) fun f => do pure (f.offset, ← sizeOf f.type)).run Tryz.prog w = .ok #[(0, 1), (1, 1), (2, 1), (3, 1), (4, 1), (5, 1), (6, 1), (7, 1)] w := by kernel_rfl
theorem in127 : (Tryz.prog.info? 127).map (fun i => (i.zero, i.size, i.bytes)) = some (some (.nilFunc), 1, 8) := by kernel_rfl
theorem sz127 : (Tryz.prog.info? 127).map (·.size) = some 1 := by kernel_rfl
theorem ze127 : (Tryz.prog.info? 127).map (·.zero) = some (some (.nilFunc)) := by kernel_rfl
theorem zs127 : (Tryz.prog.info? 127).map (fun i => (i.zero, i.size)) = some (some (.nilFunc), 1) := by kernel_rfl
theorem in128 : (Tryz.prog.info? 128).map (fun i => (i.zero, i.size, i.bytes)) = some (some (.nilFunc), 1, 8) := by kernel_rfl
theorem sz128 : (Tryz.prog.info? 128).map (·.size) = some 1 := by kernel_rfl
theorem ze128 : (Tryz.prog.info? 128).map (·.zero) = some (some (.nilFunc)) := by kernel_rfl
theorem zs128 : (Tryz.prog.info? 128).map (fun i => (i.zero, i.size)) = some (some (.nilFunc), 1) := by kernel_rfl
theorem in129 : (Tryz.prog.info? 129).map (fun i => (i.zero, i.size, i.bytes)) = some (some (.nilFunc), 1, 8) := by kernel_rfl
theorem sz129 : (Tryz.prog.info? 129).map (·.size) = some 1 := by kernel_rfl
theorem ze129 : (Tryz.prog.info? 129).map (·.zero) = some (some (.nilFunc)) := by kernel_rfl
theorem zs129 : (Tryz.prog.info? 129).map (fun i => (i.zero, i.size)) = some (some (.nilFunc), 1) := by kernel_rfl
theorem in130 : (Tryz.prog.info? 130).map (fun i => (i.zero, i.size, i.bytes)) = some (some (.nilFunc), 1, 8) := by kernel_rfl
theorem sz130 : (Tryz.prog.info? 130).map (·.size) = some 1 := by kernel_rfl
theorem ze130 : (Tryz.prog.info? 130).map (·.zero) = some (some (.nilFunc)) := by kernel_rfl
theorem zs130 : (Tryz.prog.info? 130).map (fun i => (i.zero, i.size)) = some (some (.nilFunc), 1) := by kernel_rfl
theorem in131 : (Tryz.prog.info? 131).map (fun i => (i.zero, i.size, i.bytes)) = some (some (.nilFunc), 1, 8) := by kernel_rfl
theorem sz131 : (Tryz.prog.info? 131).map (·.size) = some 1 := by kernel_rfl
theorem ze131 : (Tryz.prog.info? 131).map (·.zero) = some (some (.nilFunc)) := by kernel_rfl
theorem zs131 : (Tryz.prog.info? 131).map (fun i => (i.zero, i.size)) = some (some (.nilFunc), 1) := by kernel_rfl
theorem in132 : (Tryz.prog.info? 132).map (fun i => (i.zero, i.size, i.bytes)) = some (some (.map none), 1, 8) := by kernel_rfl
theorem sz132 : (Tryz.prog.info? 132).map (·.size) = some 1 := by kernel_rfl
theorem ze132 : (Tryz.prog.info? 132).map (·.zero) = some (some (.map none)) := by kernel_rfl
theorem zs132 : (Tryz.prog.info? 132).map (fun i => (i.zero, i.size)) = some (some (.map none), 1) := by kernel_rfl
theorem in133 : (Tryz.prog.info? 133).map (fun i => (i.zero, i.size, i.bytes)) = some (some (.map none), 1, 8) := by kernel_rfl
theorem sz133 : (Tryz.prog.info? 133).map (·.size) = some 1 := by kernel_rfl
theorem ze133 : (Tryz.prog.info? 133).map (·.zero) = some (some (.map none)) := by kernel_rfl
theorem zs133 : (Tryz.prog.info? 133).map (fun i => (i.zero, i.size)) = some (some (.map none), 1) := by kernel_rfl
theorem in134 : (Tryz.prog.info? 134).map (fun i => (i.zero, i.size, i.bytes)) = some (some (.agg #[.map none, .map none, .int .i64 0, .slice none 0 0, .int .i64 0, .int .i64 0]), 6, 64) := by kernel_rfl
theorem sz134 : (Tryz.prog.info? 134).map (·.size) = some 6 := by kernel_rfl
theorem ze134 : (Tryz.prog.info? 134).map (·.zero) = some (some (.agg #[.map none, .map none, .int .i64 0, .slice none 0 0, .int .i64 0, .int .i64 0])) := by kernel_rfl
theorem pl134 (w : World) : ((#[{ name := "objects", type := 132, offset := 0, embedded := false, tag := "", pkgPath := "cordwood/store", byteOffset := 0 }, { name := "uploads", type := 133, offset := 1, embedded := false, tag := "", pkgPath := "cordwood/store", byteOffset := 8 }, { name := "ids", type := 3, offset := 2, embedded := false, tag := "", pkgPath := "cordwood/store", byteOffset := 16 }, { name := "script", type := 22, offset := 3, embedded := false, tag := "", pkgPath := "cordwood/store", byteOffset := 24 }, { name := "calls", type := 3, offset := 4, embedded := false, tag := "", pkgPath := "cordwood/store", byteOffset := 48 }, { name := "failed", type := 3, offset := 5, embedded := false, tag := "", pkgPath := "cordwood/store", byteOffset := 56 }] : Array Field).mapM (m := Sem) fun f => do pure (f.offset, ← sizeOf f.type)).run Tryz.prog w = .ok #[(0, 1), (1, 1), (2, 1), (3, 1), (4, 1), (5, 1)] w := by kernel_rfl
theorem in135 : (Tryz.prog.info? 135).map (fun i => (i.zero, i.size, i.bytes)) = some (some (.agg #[.map none, .map none, .int .i64 0, .slice none 0 0, .int .i64 0, .int .i64 0]), 6, 64) := by kernel_rfl
theorem sz135 : (Tryz.prog.info? 135).map (·.size) = some 6 := by kernel_rfl
theorem ze135 : (Tryz.prog.info? 135).map (·.zero) = some (some (.agg #[.map none, .map none, .int .i64 0, .slice none 0 0, .int .i64 0, .int .i64 0])) := by kernel_rfl
theorem pl135 (w : World) : ((#[{ name := "objects", type := 132, offset := 0, embedded := false, tag := "", pkgPath := "cordwood/store", byteOffset := 0 }, { name := "uploads", type := 133, offset := 1, embedded := false, tag := "", pkgPath := "cordwood/store", byteOffset := 8 }, { name := "ids", type := 3, offset := 2, embedded := false, tag := "", pkgPath := "cordwood/store", byteOffset := 16 }, { name := "script", type := 22, offset := 3, embedded := false, tag := "", pkgPath := "cordwood/store", byteOffset := 24 }, { name := "calls", type := 3, offset := 4, embedded := false, tag := "", pkgPath := "cordwood/store", byteOffset := 48 }, { name := "failed", type := 3, offset := 5, embedded := false, tag := "", pkgPath := "cordwood/store", byteOffset := 56 }] : Array Field).mapM (m := Sem) fun f => do pure (f.offset, ← sizeOf f.type)).run Tryz.prog w = .ok #[(0, 1), (1, 1), (2, 1), (3, 1), (4, 1), (5, 1)] w := by kernel_rfl
theorem in136 : (Tryz.prog.info? 136).map (fun i => (i.zero, i.size, i.bytes)) = some (some (.agg #[.pointer none, .int .i64 0, .int .i64 0]), 3, 24) := by kernel_rfl
theorem sz136 : (Tryz.prog.info? 136).map (·.size) = some 3 := by kernel_rfl
theorem ze136 : (Tryz.prog.info? 136).map (·.zero) = some (some (.agg #[.pointer none, .int .i64 0, .int .i64 0])) := by kernel_rfl
theorem pl136 (w : World) : ((#[{ name := "s", type := 26, offset := 0, embedded := false, tag := "", pkgPath := "cordwood/call", byteOffset := 0 }, { name := "tries", type := 3, offset := 1, embedded := false, tag := "", pkgPath := "cordwood/call", byteOffset := 8 }, { name := "asked", type := 3, offset := 2, embedded := false, tag := "", pkgPath := "cordwood/call", byteOffset := 16 }] : Array Field).mapM (m := Sem) fun f => do pure (f.offset, ← sizeOf f.type)).run Tryz.prog w = .ok #[(0, 1), (1, 1), (2, 1)] w := by kernel_rfl
theorem in137 : (Tryz.prog.info? 137).map (fun i => (i.zero, i.size, i.bytes)) = some (some (.agg #[.pointer none, .int .i64 0, .int .i64 0]), 3, 24) := by kernel_rfl
theorem sz137 : (Tryz.prog.info? 137).map (·.size) = some 3 := by kernel_rfl
theorem ze137 : (Tryz.prog.info? 137).map (·.zero) = some (some (.agg #[.pointer none, .int .i64 0, .int .i64 0])) := by kernel_rfl
theorem pl137 (w : World) : ((#[{ name := "s", type := 26, offset := 0, embedded := false, tag := "", pkgPath := "cordwood/call", byteOffset := 0 }, { name := "tries", type := 3, offset := 1, embedded := false, tag := "", pkgPath := "cordwood/call", byteOffset := 8 }, { name := "asked", type := 3, offset := 2, embedded := false, tag := "", pkgPath := "cordwood/call", byteOffset := 16 }] : Array Field).mapM (m := Sem) fun f => do pure (f.offset, ← sizeOf f.type)).run Tryz.prog w = .ok #[(0, 1), (1, 1), (2, 1)] w := by kernel_rfl
theorem in139 : (Tryz.prog.info? 139).map (fun i => (i.zero, i.size, i.bytes)) = some (some (.nilFunc), 1, 8) := by kernel_rfl
theorem sz139 : (Tryz.prog.info? 139).map (·.size) = some 1 := by kernel_rfl
theorem ze139 : (Tryz.prog.info? 139).map (·.zero) = some (some (.nilFunc)) := by kernel_rfl
theorem zs139 : (Tryz.prog.info? 139).map (fun i => (i.zero, i.size)) = some (some (.nilFunc), 1) := by kernel_rfl
theorem in140 : (Tryz.prog.info? 140).map (fun i => (i.zero, i.size, i.bytes)) = some (some (.agg #[.int .i64 0, .int .i64 0]), 2, 16) := by kernel_rfl
theorem sz140 : (Tryz.prog.info? 140).map (·.size) = some 2 := by kernel_rfl
theorem ze140 : (Tryz.prog.info? 140).map (·.zero) = some (some (.agg #[.int .i64 0, .int .i64 0])) := by kernel_rfl
theorem pl140 (w : World) : ((#[{ name := "Epoch", type := 3, offset := 0, embedded := false, tag := "", pkgPath := "", byteOffset := 0 }, { name := "Start", type := 2, offset := 1, embedded := false, tag := "", pkgPath := "", byteOffset := 8 }] : Array Field).mapM (m := Sem) fun f => do pure (f.offset, ← sizeOf f.type)).run Tryz.prog w = .ok #[(0, 1), (1, 1)] w := by kernel_rfl
theorem in141 : (Tryz.prog.info? 141).map (fun i => (i.zero, i.size, i.bytes)) = some (some (.agg #[.int .i64 0, .int .i64 0]), 2, 16) := by kernel_rfl
theorem sz141 : (Tryz.prog.info? 141).map (·.size) = some 2 := by kernel_rfl
theorem ze141 : (Tryz.prog.info? 141).map (·.zero) = some (some (.agg #[.int .i64 0, .int .i64 0])) := by kernel_rfl
theorem pl141 (w : World) : ((#[{ name := "Epoch", type := 3, offset := 0, embedded := false, tag := "", pkgPath := "", byteOffset := 0 }, { name := "Start", type := 2, offset := 1, embedded := false, tag := "", pkgPath := "", byteOffset := 8 }] : Array Field).mapM (m := Sem) fun f => do pure (f.offset, ← sizeOf f.type)).run Tryz.prog w = .ok #[(0, 1), (1, 1)] w := by kernel_rfl
theorem in142 : (Tryz.prog.info? 142).map (fun i => (i.zero, i.size, i.bytes)) = some (some (.nilFunc), 1, 8) := by kernel_rfl
theorem sz142 : (Tryz.prog.info? 142).map (·.size) = some 1 := by kernel_rfl
theorem ze142 : (Tryz.prog.info? 142).map (·.zero) = some (some (.nilFunc)) := by kernel_rfl
theorem zs142 : (Tryz.prog.info? 142).map (fun i => (i.zero, i.size)) = some (some (.nilFunc), 1) := by kernel_rfl
theorem in143 : (Tryz.prog.info? 143).map (fun i => (i.zero, i.size, i.bytes)) = some (some (.nilFunc), 1, 8) := by kernel_rfl
theorem sz143 : (Tryz.prog.info? 143).map (·.size) = some 1 := by kernel_rfl
theorem ze143 : (Tryz.prog.info? 143).map (·.zero) = some (some (.nilFunc)) := by kernel_rfl
theorem zs143 : (Tryz.prog.info? 143).map (fun i => (i.zero, i.size)) = some (some (.nilFunc), 1) := by kernel_rfl
theorem in144 : (Tryz.prog.info? 144).map (fun i => (i.zero, i.size, i.bytes)) = some (some (.nilFunc), 1, 8) := by kernel_rfl
theorem sz144 : (Tryz.prog.info? 144).map (·.size) = some 1 := by kernel_rfl
theorem ze144 : (Tryz.prog.info? 144).map (·.zero) = some (some (.nilFunc)) := by kernel_rfl
theorem zs144 : (Tryz.prog.info? 144).map (fun i => (i.zero, i.size)) = some (some (.nilFunc), 1) := by kernel_rfl
theorem in145 : (Tryz.prog.info? 145).map (fun i => (i.zero, i.size, i.bytes)) = some (some (.pointer none), 1, 8) := by kernel_rfl
theorem sz145 : (Tryz.prog.info? 145).map (·.size) = some 1 := by kernel_rfl
theorem ze145 : (Tryz.prog.info? 145).map (·.zero) = some (some (.pointer none)) := by kernel_rfl
theorem zs145 : (Tryz.prog.info? 145).map (fun i => (i.zero, i.size)) = some (some (.pointer none), 1) := by kernel_rfl
theorem in146 : (Tryz.prog.info? 146).map (fun i => (i.zero, i.size, i.bytes)) = some (some (.map none), 1, 8) := by kernel_rfl
theorem sz146 : (Tryz.prog.info? 146).map (·.size) = some 1 := by kernel_rfl
theorem ze146 : (Tryz.prog.info? 146).map (·.zero) = some (some (.map none)) := by kernel_rfl
theorem zs146 : (Tryz.prog.info? 146).map (fun i => (i.zero, i.size)) = some (some (.map none), 1) := by kernel_rfl
theorem in147 : (Tryz.prog.info? 147).map (fun i => (i.zero, i.size, i.bytes)) = some (some (.agg #[.string ByteArray.empty, .map none]), 2, 24) := by kernel_rfl
theorem sz147 : (Tryz.prog.info? 147).map (·.size) = some 2 := by kernel_rfl
theorem ze147 : (Tryz.prog.info? 147).map (·.zero) = some (some (.agg #[.string ByteArray.empty, .map none])) := by kernel_rfl
theorem pl147 (w : World) : ((#[{ name := "name", type := 9, offset := 0, embedded := false, tag := "", pkgPath := "cordwood/store", byteOffset := 0 }, { name := "parts", type := 146, offset := 1, embedded := false, tag := "", pkgPath := "cordwood/store", byteOffset := 16 }] : Array Field).mapM (m := Sem) fun f => do pure (f.offset, ← sizeOf f.type)).run Tryz.prog w = .ok #[(0, 1), (1, 1)] w := by kernel_rfl
theorem in148 : (Tryz.prog.info? 148).map (fun i => (i.zero, i.size, i.bytes)) = some (some (.agg #[.string ByteArray.empty, .map none]), 2, 24) := by kernel_rfl
theorem sz148 : (Tryz.prog.info? 148).map (·.size) = some 2 := by kernel_rfl
theorem ze148 : (Tryz.prog.info? 148).map (·.zero) = some (some (.agg #[.string ByteArray.empty, .map none])) := by kernel_rfl
theorem pl148 (w : World) : ((#[{ name := "name", type := 9, offset := 0, embedded := false, tag := "", pkgPath := "cordwood/store", byteOffset := 0 }, { name := "parts", type := 146, offset := 1, embedded := false, tag := "", pkgPath := "cordwood/store", byteOffset := 16 }] : Array Field).mapM (m := Sem) fun f => do pure (f.offset, ← sizeOf f.type)).run Tryz.prog w = .ok #[(0, 1), (1, 1)] w := by kernel_rfl
theorem in149 : (Tryz.prog.info? 149).map (fun i => (i.zero, i.size, i.bytes)) = some (some (.nilFunc), 1, 8) := by kernel_rfl
theorem sz149 : (Tryz.prog.info? 149).map (·.size) = some 1 := by kernel_rfl
theorem ze149 : (Tryz.prog.info? 149).map (·.zero) = some (some (.nilFunc)) := by kernel_rfl
theorem zs149 : (Tryz.prog.info? 149).map (fun i => (i.zero, i.size)) = some (some (.nilFunc), 1) := by kernel_rfl
theorem in150 : (Tryz.prog.info? 150).map (fun i => (i.zero, i.size, i.bytes)) = some (some (.nilFunc), 1, 8) := by kernel_rfl
theorem sz150 : (Tryz.prog.info? 150).map (·.size) = some 1 := by kernel_rfl
theorem ze150 : (Tryz.prog.info? 150).map (·.zero) = some (some (.nilFunc)) := by kernel_rfl
theorem zs150 : (Tryz.prog.info? 150).map (fun i => (i.zero, i.size)) = some (some (.nilFunc), 1) := by kernel_rfl
theorem in151 : (Tryz.prog.info? 151).map (fun i => (i.zero, i.size, i.bytes)) = some (some (.nilFunc), 1, 8) := by kernel_rfl
theorem sz151 : (Tryz.prog.info? 151).map (·.size) = some 1 := by kernel_rfl
theorem ze151 : (Tryz.prog.info? 151).map (·.zero) = some (some (.nilFunc)) := by kernel_rfl
theorem zs151 : (Tryz.prog.info? 151).map (fun i => (i.zero, i.size)) = some (some (.nilFunc), 1) := by kernel_rfl
theorem in152 : (Tryz.prog.info? 152).map (fun i => (i.zero, i.size, i.bytes)) = some (some (.nilFunc), 1, 8) := by kernel_rfl
theorem sz152 : (Tryz.prog.info? 152).map (·.size) = some 1 := by kernel_rfl
theorem ze152 : (Tryz.prog.info? 152).map (·.zero) = some (some (.nilFunc)) := by kernel_rfl
theorem zs152 : (Tryz.prog.info? 152).map (fun i => (i.zero, i.size)) = some (some (.nilFunc), 1) := by kernel_rfl
theorem in153 : (Tryz.prog.info? 153).map (fun i => (i.zero, i.size, i.bytes)) = some (some (.nilFunc), 1, 8) := by kernel_rfl
theorem sz153 : (Tryz.prog.info? 153).map (·.size) = some 1 := by kernel_rfl
theorem ze153 : (Tryz.prog.info? 153).map (·.zero) = some (some (.nilFunc)) := by kernel_rfl
theorem zs153 : (Tryz.prog.info? 153).map (fun i => (i.zero, i.size)) = some (some (.nilFunc), 1) := by kernel_rfl
theorem in154 : (Tryz.prog.info? 154).map (fun i => (i.zero, i.size, i.bytes)) = some (some (.nilFunc), 1, 8) := by kernel_rfl
theorem sz154 : (Tryz.prog.info? 154).map (·.size) = some 1 := by kernel_rfl
theorem ze154 : (Tryz.prog.info? 154).map (·.zero) = some (some (.nilFunc)) := by kernel_rfl
theorem zs154 : (Tryz.prog.info? 154).map (fun i => (i.zero, i.size)) = some (some (.nilFunc), 1) := by kernel_rfl
theorem in155 : (Tryz.prog.info? 155).map (fun i => (i.zero, i.size, i.bytes)) = some (some (.nilFunc), 1, 8) := by kernel_rfl
theorem sz155 : (Tryz.prog.info? 155).map (·.size) = some 1 := by kernel_rfl
theorem ze155 : (Tryz.prog.info? 155).map (·.zero) = some (some (.nilFunc)) := by kernel_rfl
theorem zs155 : (Tryz.prog.info? 155).map (fun i => (i.zero, i.size)) = some (some (.nilFunc), 1) := by kernel_rfl
theorem in156 : (Tryz.prog.info? 156).map (fun i => (i.zero, i.size, i.bytes)) = some (some (.nilFunc), 1, 8) := by kernel_rfl
theorem sz156 : (Tryz.prog.info? 156).map (·.size) = some 1 := by kernel_rfl
theorem ze156 : (Tryz.prog.info? 156).map (·.zero) = some (some (.nilFunc)) := by kernel_rfl
theorem zs156 : (Tryz.prog.info? 156).map (fun i => (i.zero, i.size)) = some (some (.nilFunc), 1) := by kernel_rfl
theorem in157 : (Tryz.prog.info? 157).map (fun i => (i.zero, i.size, i.bytes)) = some (some (.nilFunc), 1, 8) := by kernel_rfl
theorem sz157 : (Tryz.prog.info? 157).map (·.size) = some 1 := by kernel_rfl
theorem ze157 : (Tryz.prog.info? 157).map (·.zero) = some (some (.nilFunc)) := by kernel_rfl
theorem zs157 : (Tryz.prog.info? 157).map (fun i => (i.zero, i.size)) = some (some (.nilFunc), 1) := by kernel_rfl
theorem in158 : (Tryz.prog.info? 158).map (fun i => (i.zero, i.size, i.bytes)) = some (some (.nilFunc), 1, 8) := by kernel_rfl
theorem sz158 : (Tryz.prog.info? 158).map (·.size) = some 1 := by kernel_rfl
theorem ze158 : (Tryz.prog.info? 158).map (·.zero) = some (some (.nilFunc)) := by kernel_rfl
theorem zs158 : (Tryz.prog.info? 158).map (fun i => (i.zero, i.size)) = some (some (.nilFunc), 1) := by kernel_rfl
theorem in159 : (Tryz.prog.info? 159).map (fun i => (i.zero, i.size, i.bytes)) = some (some (.nilFunc), 1, 8) := by kernel_rfl
theorem sz159 : (Tryz.prog.info? 159).map (·.size) = some 1 := by kernel_rfl
theorem ze159 : (Tryz.prog.info? 159).map (·.zero) = some (some (.nilFunc)) := by kernel_rfl
theorem zs159 : (Tryz.prog.info? 159).map (fun i => (i.zero, i.size)) = some (some (.nilFunc), 1) := by kernel_rfl
theorem in160 : (Tryz.prog.info? 160).map (fun i => (i.zero, i.size, i.bytes)) = some (some (.map none), 1, 8) := by kernel_rfl
theorem sz160 : (Tryz.prog.info? 160).map (·.size) = some 1 := by kernel_rfl
theorem ze160 : (Tryz.prog.info? 160).map (·.zero) = some (some (.map none)) := by kernel_rfl
theorem zs160 : (Tryz.prog.info? 160).map (fun i => (i.zero, i.size)) = some (some (.map none), 1) := by kernel_rfl
theorem in161 : (Tryz.prog.info? 161).map (fun i => (i.zero, i.size, i.bytes)) = some (some (.agg #[.map none]), 1, 8) := by kernel_rfl
theorem sz161 : (Tryz.prog.info? 161).map (·.size) = some 1 := by kernel_rfl
theorem ze161 : (Tryz.prog.info? 161).map (·.zero) = some (some (.agg #[.map none])) := by kernel_rfl
theorem zs161 : (Tryz.prog.info? 161).map (fun i => (i.zero, i.size)) = some (some (.agg #[.map none]), 1) := by kernel_rfl
theorem pl161 (w : World) : ((#[{ name := "l", type := 160, offset := 0, embedded := false, tag := "", pkgPath := "cordwood/view", byteOffset := 0 }] : Array Field).mapM (m := Sem) fun f => do pure (f.offset, ← sizeOf f.type)).run Tryz.prog w = .ok #[(0, 1)] w := by kernel_rfl
theorem in162 : (Tryz.prog.info? 162).map (fun i => (i.zero, i.size, i.bytes)) = some (some (.agg #[.map none]), 1, 8) := by kernel_rfl
theorem sz162 : (Tryz.prog.info? 162).map (·.size) = some 1 := by kernel_rfl
theorem ze162 : (Tryz.prog.info? 162).map (·.zero) = some (some (.agg #[.map none])) := by kernel_rfl
theorem zs162 : (Tryz.prog.info? 162).map (fun i => (i.zero, i.size)) = some (some (.agg #[.map none]), 1) := by kernel_rfl
theorem pl162 (w : World) : ((#[{ name := "l", type := 160, offset := 0, embedded := false, tag := "", pkgPath := "cordwood/view", byteOffset := 0 }] : Array Field).mapM (m := Sem) fun f => do pure (f.offset, ← sizeOf f.type)).run Tryz.prog w = .ok #[(0, 1)] w := by kernel_rfl
theorem in163 : (Tryz.prog.info? 163).map (fun i => (i.zero, i.size, i.bytes)) = some (some (.agg #[.int .i64 0, .int .i64 0, .int .i64 0, .int .i64 0, .int .i64 0, .slice none 0 0, .slice none 0 0]), 7, 88) := by kernel_rfl
theorem sz163 : (Tryz.prog.info? 163).map (·.size) = some 7 := by kernel_rfl
theorem ze163 : (Tryz.prog.info? 163).map (·.zero) = some (some (.agg #[.int .i64 0, .int .i64 0, .int .i64 0, .int .i64 0, .int .i64 0, .slice none 0 0, .slice none 0 0])) := by kernel_rfl
theorem pl163 (w : World) : ((#[{ name := "state", type := 3, offset := 0, embedded := false, tag := "", pkgPath := "cordwood/view", byteOffset := 0 }, { name := "m", type := 36, offset := 1, embedded := false, tag := "", pkgPath := "cordwood/view", byteOffset := 8 }] : Array Field).mapM (m := Sem) fun f => do pure (f.offset, ← sizeOf f.type)).run Tryz.prog w = .ok #[(0, 1), (1, 6)] w := by kernel_rfl
theorem in164 : (Tryz.prog.info? 164).map (fun i => (i.zero, i.size, i.bytes)) = some (some (.agg #[.int .i64 0, .int .i64 0, .int .i64 0, .int .i64 0, .int .i64 0, .slice none 0 0, .slice none 0 0]), 7, 88) := by kernel_rfl
theorem sz164 : (Tryz.prog.info? 164).map (·.size) = some 7 := by kernel_rfl
theorem ze164 : (Tryz.prog.info? 164).map (·.zero) = some (some (.agg #[.int .i64 0, .int .i64 0, .int .i64 0, .int .i64 0, .int .i64 0, .slice none 0 0, .slice none 0 0])) := by kernel_rfl
theorem pl164 (w : World) : ((#[{ name := "state", type := 3, offset := 0, embedded := false, tag := "", pkgPath := "cordwood/view", byteOffset := 0 }, { name := "m", type := 36, offset := 1, embedded := false, tag := "", pkgPath := "cordwood/view", byteOffset := 8 }] : Array Field).mapM (m := Sem) fun f => do pure (f.offset, ← sizeOf f.type)).run Tryz.prog w = .ok #[(0, 1), (1, 6)] w := by kernel_rfl
theorem in165 : (Tryz.prog.info? 165).map (fun i => (i.zero, i.size, i.bytes)) = some (some (.nilFunc), 1, 8) := by kernel_rfl
theorem sz165 : (Tryz.prog.info? 165).map (·.size) = some 1 := by kernel_rfl
theorem ze165 : (Tryz.prog.info? 165).map (·.zero) = some (some (.nilFunc)) := by kernel_rfl
theorem zs165 : (Tryz.prog.info? 165).map (fun i => (i.zero, i.size)) = some (some (.nilFunc), 1) := by kernel_rfl
theorem in166 : (Tryz.prog.info? 166).map (fun i => (i.zero, i.size, i.bytes)) = some (some (.nilFunc), 1, 8) := by kernel_rfl
theorem sz166 : (Tryz.prog.info? 166).map (·.size) = some 1 := by kernel_rfl
theorem ze166 : (Tryz.prog.info? 166).map (·.zero) = some (some (.nilFunc)) := by kernel_rfl
theorem zs166 : (Tryz.prog.info? 166).map (fun i => (i.zero, i.size)) = some (some (.nilFunc), 1) := by kernel_rfl
theorem in168 : (Tryz.prog.info? 168).map (fun i => (i.zero, i.size, i.bytes)) = some (some (.nilFunc), 1, 8) := by kernel_rfl
theorem sz168 : (Tryz.prog.info? 168).map (·.size) = some 1 := by kernel_rfl
theorem ze168 : (Tryz.prog.info? 168).map (·.zero) = some (some (.nilFunc)) := by kernel_rfl
theorem zs168 : (Tryz.prog.info? 168).map (fun i => (i.zero, i.size)) = some (some (.nilFunc), 1) := by kernel_rfl
theorem in169 : (Tryz.prog.info? 169).map (fun i => (i.zero, i.size, i.bytes)) = some (some (.nilFunc), 1, 8) := by kernel_rfl
theorem sz169 : (Tryz.prog.info? 169).map (·.size) = some 1 := by kernel_rfl
theorem ze169 : (Tryz.prog.info? 169).map (·.zero) = some (some (.nilFunc)) := by kernel_rfl
theorem zs169 : (Tryz.prog.info? 169).map (fun i => (i.zero, i.size)) = some (some (.nilFunc), 1) := by kernel_rfl
theorem in170 : (Tryz.prog.info? 170).map (fun i => (i.zero, i.size, i.bytes)) = some (some (.nilFunc), 1, 8) := by kernel_rfl
theorem sz170 : (Tryz.prog.info? 170).map (·.size) = some 1 := by kernel_rfl
theorem ze170 : (Tryz.prog.info? 170).map (·.zero) = some (some (.nilFunc)) := by kernel_rfl
theorem zs170 : (Tryz.prog.info? 170).map (fun i => (i.zero, i.size)) = some (some (.nilFunc), 1) := by kernel_rfl
theorem in171 : (Tryz.prog.info? 171).map (fun i => (i.zero, i.size, i.bytes)) = some (some (.nilFunc), 1, 8) := by kernel_rfl
theorem sz171 : (Tryz.prog.info? 171).map (·.size) = some 1 := by kernel_rfl
theorem ze171 : (Tryz.prog.info? 171).map (·.zero) = some (some (.nilFunc)) := by kernel_rfl
theorem zs171 : (Tryz.prog.info? 171).map (fun i => (i.zero, i.size)) = some (some (.nilFunc), 1) := by kernel_rfl
theorem in172 : (Tryz.prog.info? 172).map (fun i => (i.zero, i.size, i.bytes)) = some (some (.int .u64 0), 1, 8) := by kernel_rfl
theorem sz172 : (Tryz.prog.info? 172).map (·.size) = some 1 := by kernel_rfl
theorem ze172 : (Tryz.prog.info? 172).map (·.zero) = some (some (.int .u64 0)) := by kernel_rfl
theorem zs172 : (Tryz.prog.info? 172).map (fun i => (i.zero, i.size)) = some (some (.int .u64 0), 1) := by kernel_rfl
theorem in173 : (Tryz.prog.info? 173).map (fun i => (i.zero, i.size, i.bytes)) = some (some (.nilFunc), 1, 8) := by kernel_rfl
theorem sz173 : (Tryz.prog.info? 173).map (·.size) = some 1 := by kernel_rfl
theorem ze173 : (Tryz.prog.info? 173).map (·.zero) = some (some (.nilFunc)) := by kernel_rfl
theorem zs173 : (Tryz.prog.info? 173).map (fun i => (i.zero, i.size)) = some (some (.nilFunc), 1) := by kernel_rfl
theorem in174 : (Tryz.prog.info? 174).map (fun i => (i.zero, i.size, i.bytes)) = some (some (.nilFunc), 1, 8) := by kernel_rfl
theorem sz174 : (Tryz.prog.info? 174).map (·.size) = some 1 := by kernel_rfl
theorem ze174 : (Tryz.prog.info? 174).map (·.zero) = some (some (.nilFunc)) := by kernel_rfl
theorem zs174 : (Tryz.prog.info? 174).map (fun i => (i.zero, i.size)) = some (some (.nilFunc), 1) := by kernel_rfl
theorem in175 : (Tryz.prog.info? 175).map (fun i => (i.zero, i.size, i.bytes)) = some (some (.nilFunc), 1, 8) := by kernel_rfl
theorem sz175 : (Tryz.prog.info? 175).map (·.size) = some 1 := by kernel_rfl
theorem ze175 : (Tryz.prog.info? 175).map (·.zero) = some (some (.nilFunc)) := by kernel_rfl
theorem zs175 : (Tryz.prog.info? 175).map (fun i => (i.zero, i.size)) = some (some (.nilFunc), 1) := by kernel_rfl
theorem in176 : (Tryz.prog.info? 176).map (fun i => (i.zero, i.size, i.bytes)) = some (some (.pointer none), 1, 8) := by kernel_rfl
theorem sz176 : (Tryz.prog.info? 176).map (·.size) = some 1 := by kernel_rfl
theorem ze176 : (Tryz.prog.info? 176).map (·.zero) = some (some (.pointer none)) := by kernel_rfl
theorem zs176 : (Tryz.prog.info? 176).map (fun i => (i.zero, i.size)) = some (some (.pointer none), 1) := by kernel_rfl
theorem in177 : (Tryz.prog.info? 177).map (fun i => (i.zero, i.size, i.bytes)) = some (some (.nilFunc), 1, 8) := by kernel_rfl
theorem sz177 : (Tryz.prog.info? 177).map (·.size) = some 1 := by kernel_rfl
theorem ze177 : (Tryz.prog.info? 177).map (·.zero) = some (some (.nilFunc)) := by kernel_rfl
theorem zs177 : (Tryz.prog.info? 177).map (fun i => (i.zero, i.size)) = some (some (.nilFunc), 1) := by kernel_rfl
theorem in178 : (Tryz.prog.info? 178).map (fun i => (i.zero, i.size, i.bytes)) = some (some (.slice none 0 0), 1, 24) := by kernel_rfl
theorem sz178 : (Tryz.prog.info? 178).map (·.size) = some 1 := by kernel_rfl
theorem ze178 : (Tryz.prog.info? 178).map (·.zero) = some (some (.slice none 0 0)) := by kernel_rfl
theorem zs178 : (Tryz.prog.info? 178).map (fun i => (i.zero, i.size)) = some (some (.slice none 0 0), 1) := by kernel_rfl
theorem in179 : (Tryz.prog.info? 179).map (fun i => (i.zero, i.size, i.bytes)) = some (some (.slice none 0 0), 1, 24) := by kernel_rfl
theorem sz179 : (Tryz.prog.info? 179).map (·.size) = some 1 := by kernel_rfl
theorem ze179 : (Tryz.prog.info? 179).map (·.zero) = some (some (.slice none 0 0)) := by kernel_rfl
theorem zs179 : (Tryz.prog.info? 179).map (fun i => (i.zero, i.size)) = some (some (.slice none 0 0), 1) := by kernel_rfl
theorem in180 : (Tryz.prog.info? 180).map (fun i => (i.zero, i.size, i.bytes)) = some (some (.nilFunc), 1, 8) := by kernel_rfl
theorem sz180 : (Tryz.prog.info? 180).map (·.size) = some 1 := by kernel_rfl
theorem ze180 : (Tryz.prog.info? 180).map (·.zero) = some (some (.nilFunc)) := by kernel_rfl
theorem zs180 : (Tryz.prog.info? 180).map (fun i => (i.zero, i.size)) = some (some (.nilFunc), 1) := by kernel_rfl
theorem in181 : (Tryz.prog.info? 181).map (fun i => (i.zero, i.size, i.bytes)) = some (some (.nilFunc), 1, 8) := by kernel_rfl
theorem sz181 : (Tryz.prog.info? 181).map (·.size) = some 1 := by kernel_rfl
theorem ze181 : (Tryz.prog.info? 181).map (·.zero) = some (some (.nilFunc)) := by kernel_rfl
theorem zs181 : (Tryz.prog.info? 181).map (fun i => (i.zero, i.size)) = some (some (.nilFunc), 1) := by kernel_rfl
theorem in182 : (Tryz.prog.info? 182).map (fun i => (i.zero, i.size, i.bytes)) = some (some (.nilFunc), 1, 8) := by kernel_rfl
theorem sz182 : (Tryz.prog.info? 182).map (·.size) = some 1 := by kernel_rfl
theorem ze182 : (Tryz.prog.info? 182).map (·.zero) = some (some (.nilFunc)) := by kernel_rfl
theorem zs182 : (Tryz.prog.info? 182).map (fun i => (i.zero, i.size)) = some (some (.nilFunc), 1) := by kernel_rfl
theorem in184 : (Tryz.prog.info? 184).map (fun i => (i.zero, i.size, i.bytes)) = some (some (.nilFunc), 1, 8) := by kernel_rfl
theorem sz184 : (Tryz.prog.info? 184).map (·.size) = some 1 := by kernel_rfl
theorem ze184 : (Tryz.prog.info? 184).map (·.zero) = some (some (.nilFunc)) := by kernel_rfl
theorem zs184 : (Tryz.prog.info? 184).map (fun i => (i.zero, i.size)) = some (some (.nilFunc), 1) := by kernel_rfl
theorem in185 : (Tryz.prog.info? 185).map (fun i => (i.zero, i.size, i.bytes)) = some (some (.pointer none), 1, 8) := by kernel_rfl
theorem sz185 : (Tryz.prog.info? 185).map (·.size) = some 1 := by kernel_rfl
theorem ze185 : (Tryz.prog.info? 185).map (·.zero) = some (some (.pointer none)) := by kernel_rfl
theorem zs185 : (Tryz.prog.info? 185).map (fun i => (i.zero, i.size)) = some (some (.pointer none), 1) := by kernel_rfl
theorem in186 : (Tryz.prog.info? 186).map (fun i => (i.zero, i.size, i.bytes)) = some (some (.agg #[.int .i64 0, .nilIface]), 2, 24) := by kernel_rfl
theorem sz186 : (Tryz.prog.info? 186).map (·.size) = some 2 := by kernel_rfl
theorem ze186 : (Tryz.prog.info? 186).map (·.zero) = some (some (.agg #[.int .i64 0, .nilIface])) := by kernel_rfl
theorem pl186 (w : World) : ((#[{ name := "Pos", type := 3, offset := 0, embedded := false, tag := "", pkgPath := "", byteOffset := 0 }, { name := "Err", type := 30, offset := 1, embedded := false, tag := "", pkgPath := "", byteOffset := 8 }] : Array Field).mapM (m := Sem) fun f => do pure (f.offset, ← sizeOf f.type)).run Tryz.prog w = .ok #[(0, 1), (1, 1)] w := by kernel_rfl
theorem in187 : (Tryz.prog.info? 187).map (fun i => (i.zero, i.size, i.bytes)) = some (some (.agg #[.int .i64 0, .nilIface]), 2, 24) := by kernel_rfl
theorem sz187 : (Tryz.prog.info? 187).map (·.size) = some 2 := by kernel_rfl
theorem ze187 : (Tryz.prog.info? 187).map (·.zero) = some (some (.agg #[.int .i64 0, .nilIface])) := by kernel_rfl
theorem pl187 (w : World) : ((#[{ name := "Pos", type := 3, offset := 0, embedded := false, tag := "", pkgPath := "", byteOffset := 0 }, { name := "Err", type := 30, offset := 1, embedded := false, tag := "", pkgPath := "", byteOffset := 8 }] : Array Field).mapM (m := Sem) fun f => do pure (f.offset, ← sizeOf f.type)).run Tryz.prog w = .ok #[(0, 1), (1, 1)] w := by kernel_rfl
theorem in188 : (Tryz.prog.info? 188).map (fun i => (i.zero, i.size, i.bytes)) = some (some (.nilFunc), 1, 8) := by kernel_rfl
theorem sz188 : (Tryz.prog.info? 188).map (·.size) = some 1 := by kernel_rfl
theorem ze188 : (Tryz.prog.info? 188).map (·.zero) = some (some (.nilFunc)) := by kernel_rfl
theorem zs188 : (Tryz.prog.info? 188).map (fun i => (i.zero, i.size)) = some (some (.nilFunc), 1) := by kernel_rfl
theorem in189 : (Tryz.prog.info? 189).map (fun i => (i.zero, i.size, i.bytes)) = some (some (.nilFunc), 1, 8) := by kernel_rfl
theorem sz189 : (Tryz.prog.info? 189).map (·.size) = some 1 := by kernel_rfl
theorem ze189 : (Tryz.prog.info? 189).map (·.zero) = some (some (.nilFunc)) := by kernel_rfl
theorem zs189 : (Tryz.prog.info? 189).map (fun i => (i.zero, i.size)) = some (some (.nilFunc), 1) := by kernel_rfl
theorem in190 : (Tryz.prog.info? 190).map (fun i => (i.zero, i.size, i.bytes)) = some (some (.nilFunc), 1, 8) := by kernel_rfl
theorem sz190 : (Tryz.prog.info? 190).map (·.size) = some 1 := by kernel_rfl
theorem ze190 : (Tryz.prog.info? 190).map (·.zero) = some (some (.nilFunc)) := by kernel_rfl
theorem zs190 : (Tryz.prog.info? 190).map (fun i => (i.zero, i.size)) = some (some (.nilFunc), 1) := by kernel_rfl
theorem in191 : (Tryz.prog.info? 191).map (fun i => (i.zero, i.size, i.bytes)) = some (some (.nilFunc), 1, 8) := by kernel_rfl
theorem sz191 : (Tryz.prog.info? 191).map (·.size) = some 1 := by kernel_rfl
theorem ze191 : (Tryz.prog.info? 191).map (·.zero) = some (some (.nilFunc)) := by kernel_rfl
theorem zs191 : (Tryz.prog.info? 191).map (fun i => (i.zero, i.size)) = some (some (.nilFunc), 1) := by kernel_rfl
theorem in192 : (Tryz.prog.info? 192).map (fun i => (i.zero, i.size, i.bytes)) = some (some (.nilFunc), 1, 8) := by kernel_rfl
theorem sz192 : (Tryz.prog.info? 192).map (·.size) = some 1 := by kernel_rfl
theorem ze192 : (Tryz.prog.info? 192).map (·.zero) = some (some (.nilFunc)) := by kernel_rfl
theorem zs192 : (Tryz.prog.info? 192).map (fun i => (i.zero, i.size)) = some (some (.nilFunc), 1) := by kernel_rfl
theorem in193 : (Tryz.prog.info? 193).map (fun i => (i.zero, i.size, i.bytes)) = some (some (.agg #[.int .i64 0, .int .i64 0, .int .i64 0, .int .i64 0, .int .i64 0, .slice none 0 0, .slice none 0 0]), 7, 88) := by kernel_rfl
theorem sz193 : (Tryz.prog.info? 193).map (·.size) = some 7 := by kernel_rfl
theorem ze193 : (Tryz.prog.info? 193).map (·.zero) = some (some (.agg #[.int .i64 0, .int .i64 0, .int .i64 0, .int .i64 0, .int .i64 0, .slice none 0 0, .slice none 0 0])) := by kernel_rfl
theorem pl193 (w : World) : ((#[{ name := "State", type := 3, offset := 0, embedded := false, tag := "", pkgPath := "", byteOffset := 0 }, { name := "M", type := 36, offset := 1, embedded := false, tag := "", pkgPath := "", byteOffset := 8 }] : Array Field).mapM (m := Sem) fun f => do pure (f.offset, ← sizeOf f.type)).run Tryz.prog w = .ok #[(0, 1), (1, 6)] w := by kernel_rfl
theorem in194 : (Tryz.prog.info? 194).map (fun i => (i.zero, i.size, i.bytes)) = some (some (.agg #[.int .i64 0, .int .i64 0, .int .i64 0, .int .i64 0, .int .i64 0, .slice none 0 0, .slice none 0 0]), 7, 88) := by kernel_rfl
theorem sz194 : (Tryz.prog.info? 194).map (·.size) = some 7 := by kernel_rfl
theorem ze194 : (Tryz.prog.info? 194).map (·.zero) = some (some (.agg #[.int .i64 0, .int .i64 0, .int .i64 0, .int .i64 0, .int .i64 0, .slice none 0 0, .slice none 0 0])) := by kernel_rfl
theorem pl194 (w : World) : ((#[{ name := "State", type := 3, offset := 0, embedded := false, tag := "", pkgPath := "", byteOffset := 0 }, { name := "M", type := 36, offset := 1, embedded := false, tag := "", pkgPath := "", byteOffset := 8 }] : Array Field).mapM (m := Sem) fun f => do pure (f.offset, ← sizeOf f.type)).run Tryz.prog w = .ok #[(0, 1), (1, 6)] w := by kernel_rfl
theorem in195 : (Tryz.prog.info? 195).map (fun i => (i.zero, i.size, i.bytes)) = some (some (.nilFunc), 1, 8) := by kernel_rfl
theorem sz195 : (Tryz.prog.info? 195).map (·.size) = some 1 := by kernel_rfl
theorem ze195 : (Tryz.prog.info? 195).map (·.zero) = some (some (.nilFunc)) := by kernel_rfl
theorem zs195 : (Tryz.prog.info? 195).map (fun i => (i.zero, i.size)) = some (some (.nilFunc), 1) := by kernel_rfl
theorem in196 : (Tryz.prog.info? 196).map (fun i => (i.zero, i.size, i.bytes)) = some (some (.nilFunc), 1, 8) := by kernel_rfl
theorem sz196 : (Tryz.prog.info? 196).map (·.size) = some 1 := by kernel_rfl
theorem ze196 : (Tryz.prog.info? 196).map (·.zero) = some (some (.nilFunc)) := by kernel_rfl
theorem zs196 : (Tryz.prog.info? 196).map (fun i => (i.zero, i.size)) = some (some (.nilFunc), 1) := by kernel_rfl
theorem in197 : (Tryz.prog.info? 197).map (fun i => (i.zero, i.size, i.bytes)) = some (some (.nilFunc), 1, 8) := by kernel_rfl
theorem sz197 : (Tryz.prog.info? 197).map (·.size) = some 1 := by kernel_rfl
theorem ze197 : (Tryz.prog.info? 197).map (·.zero) = some (some (.nilFunc)) := by kernel_rfl
theorem zs197 : (Tryz.prog.info? 197).map (fun i => (i.zero, i.size)) = some (some (.nilFunc), 1) := by kernel_rfl
theorem in199 : (Tryz.prog.info? 199).map (fun i => (i.zero, i.size, i.bytes)) = some (some (.nilFunc), 1, 8) := by kernel_rfl
theorem sz199 : (Tryz.prog.info? 199).map (·.size) = some 1 := by kernel_rfl
theorem ze199 : (Tryz.prog.info? 199).map (·.zero) = some (some (.nilFunc)) := by kernel_rfl
theorem zs199 : (Tryz.prog.info? 199).map (fun i => (i.zero, i.size)) = some (some (.nilFunc), 1) := by kernel_rfl
theorem in200 : (Tryz.prog.info? 200).map (fun i => (i.zero, i.size, i.bytes)) = some (some (.nilFunc), 1, 8) := by kernel_rfl
theorem sz200 : (Tryz.prog.info? 200).map (·.size) = some 1 := by kernel_rfl
theorem ze200 : (Tryz.prog.info? 200).map (·.zero) = some (some (.nilFunc)) := by kernel_rfl
theorem zs200 : (Tryz.prog.info? 200).map (fun i => (i.zero, i.size)) = some (some (.nilFunc), 1) := by kernel_rfl
theorem in201 : (Tryz.prog.info? 201).map (fun i => (i.zero, i.size, i.bytes)) = some (some (.slice none 0 0), 1, 24) := by kernel_rfl
theorem sz201 : (Tryz.prog.info? 201).map (·.size) = some 1 := by kernel_rfl
theorem ze201 : (Tryz.prog.info? 201).map (·.zero) = some (some (.slice none 0 0)) := by kernel_rfl
theorem zs201 : (Tryz.prog.info? 201).map (fun i => (i.zero, i.size)) = some (some (.slice none 0 0), 1) := by kernel_rfl
theorem in202 : (Tryz.prog.info? 202).map (fun i => (i.zero, i.size, i.bytes)) = some (some (.nilFunc), 1, 8) := by kernel_rfl
theorem sz202 : (Tryz.prog.info? 202).map (·.size) = some 1 := by kernel_rfl
theorem ze202 : (Tryz.prog.info? 202).map (·.zero) = some (some (.nilFunc)) := by kernel_rfl
theorem zs202 : (Tryz.prog.info? 202).map (fun i => (i.zero, i.size)) = some (some (.nilFunc), 1) := by kernel_rfl
theorem in203 : (Tryz.prog.info? 203).map (fun i => (i.zero, i.size, i.bytes)) = some (some (.nilFunc), 1, 8) := by kernel_rfl
theorem sz203 : (Tryz.prog.info? 203).map (·.size) = some 1 := by kernel_rfl
theorem ze203 : (Tryz.prog.info? 203).map (·.zero) = some (some (.nilFunc)) := by kernel_rfl
theorem zs203 : (Tryz.prog.info? 203).map (fun i => (i.zero, i.size)) = some (some (.nilFunc), 1) := by kernel_rfl
theorem in205 : (Tryz.prog.info? 205).map (fun i => (i.zero, i.size, i.bytes)) = some (some (.nilFunc), 1, 8) := by kernel_rfl
theorem sz205 : (Tryz.prog.info? 205).map (·.size) = some 1 := by kernel_rfl
theorem ze205 : (Tryz.prog.info? 205).map (·.zero) = some (some (.nilFunc)) := by kernel_rfl
theorem zs205 : (Tryz.prog.info? 205).map (fun i => (i.zero, i.size)) = some (some (.nilFunc), 1) := by kernel_rfl
theorem in206 : (Tryz.prog.info? 206).map (fun i => (i.zero, i.size, i.bytes)) = some (some (.nilFunc), 1, 8) := by kernel_rfl
theorem sz206 : (Tryz.prog.info? 206).map (·.size) = some 1 := by kernel_rfl
theorem ze206 : (Tryz.prog.info? 206).map (·.zero) = some (some (.nilFunc)) := by kernel_rfl
theorem zs206 : (Tryz.prog.info? 206).map (fun i => (i.zero, i.size)) = some (some (.nilFunc), 1) := by kernel_rfl
theorem in207 : (Tryz.prog.info? 207).map (fun i => (i.zero, i.size, i.bytes)) = some (some (.agg #[.string ByteArray.empty, .slice none 0 0]), 2, 40) := by kernel_rfl
theorem sz207 : (Tryz.prog.info? 207).map (·.size) = some 2 := by kernel_rfl
theorem ze207 : (Tryz.prog.info? 207).map (·.zero) = some (some (.agg #[.string ByteArray.empty, .slice none 0 0])) := by kernel_rfl
theorem pl207 (w : World) : ((#[{ name := "Name", type := 9, offset := 0, embedded := false, tag := "", pkgPath := "", byteOffset := 0 }, { name := "Bytes", type := 64, offset := 1, embedded := false, tag := "", pkgPath := "", byteOffset := 16 }] : Array Field).mapM (m := Sem) fun f => do pure (f.offset, ← sizeOf f.type)).run Tryz.prog w = .ok #[(0, 1), (1, 1)] w := by kernel_rfl
theorem in208 : (Tryz.prog.info? 208).map (fun i => (i.zero, i.size, i.bytes)) = some (some (.agg #[.string ByteArray.empty, .slice none 0 0]), 2, 40) := by kernel_rfl
theorem sz208 : (Tryz.prog.info? 208).map (·.size) = some 2 := by kernel_rfl
theorem ze208 : (Tryz.prog.info? 208).map (·.zero) = some (some (.agg #[.string ByteArray.empty, .slice none 0 0])) := by kernel_rfl
theorem pl208 (w : World) : ((#[{ name := "Name", type := 9, offset := 0, embedded := false, tag := "", pkgPath := "", byteOffset := 0 }, { name := "Bytes", type := 64, offset := 1, embedded := false, tag := "", pkgPath := "", byteOffset := 16 }] : Array Field).mapM (m := Sem) fun f => do pure (f.offset, ← sizeOf f.type)).run Tryz.prog w = .ok #[(0, 1), (1, 1)] w := by kernel_rfl
theorem in209 : (Tryz.prog.info? 209).map (fun i => (i.zero, i.size, i.bytes)) = some (some (.nilFunc), 1, 8) := by kernel_rfl
theorem sz209 : (Tryz.prog.info? 209).map (·.size) = some 1 := by kernel_rfl
theorem ze209 : (Tryz.prog.info? 209).map (·.zero) = some (some (.nilFunc)) := by kernel_rfl
theorem zs209 : (Tryz.prog.info? 209).map (fun i => (i.zero, i.size)) = some (some (.nilFunc), 1) := by kernel_rfl
theorem in210 : (Tryz.prog.info? 210).map (fun i => (i.zero, i.size, i.bytes)) = some (some (.nilFunc), 1, 8) := by kernel_rfl
theorem sz210 : (Tryz.prog.info? 210).map (·.size) = some 1 := by kernel_rfl
theorem ze210 : (Tryz.prog.info? 210).map (·.zero) = some (some (.nilFunc)) := by kernel_rfl
theorem zs210 : (Tryz.prog.info? 210).map (fun i => (i.zero, i.size)) = some (some (.nilFunc), 1) := by kernel_rfl
theorem in211 : (Tryz.prog.info? 211).map (fun i => (i.zero, i.size, i.bytes)) = some (some (.nilFunc), 1, 8) := by kernel_rfl
theorem sz211 : (Tryz.prog.info? 211).map (·.size) = some 1 := by kernel_rfl
theorem ze211 : (Tryz.prog.info? 211).map (·.zero) = some (some (.nilFunc)) := by kernel_rfl
theorem zs211 : (Tryz.prog.info? 211).map (fun i => (i.zero, i.size)) = some (some (.nilFunc), 1) := by kernel_rfl
theorem in212 : (Tryz.prog.info? 212).map (fun i => (i.zero, i.size, i.bytes)) = some (some (.nilFunc), 1, 8) := by kernel_rfl
theorem sz212 : (Tryz.prog.info? 212).map (·.size) = some 1 := by kernel_rfl
theorem ze212 : (Tryz.prog.info? 212).map (·.zero) = some (some (.nilFunc)) := by kernel_rfl
theorem zs212 : (Tryz.prog.info? 212).map (fun i => (i.zero, i.size)) = some (some (.nilFunc), 1) := by kernel_rfl
theorem in213 : (Tryz.prog.info? 213).map (fun i => (i.zero, i.size, i.bytes)) = some (some (.slice none 0 0), 1, 24) := by kernel_rfl
theorem sz213 : (Tryz.prog.info? 213).map (·.size) = some 1 := by kernel_rfl
theorem ze213 : (Tryz.prog.info? 213).map (·.zero) = some (some (.slice none 0 0)) := by kernel_rfl
theorem zs213 : (Tryz.prog.info? 213).map (fun i => (i.zero, i.size)) = some (some (.slice none 0 0), 1) := by kernel_rfl
theorem in214 : (Tryz.prog.info? 214).map (fun i => (i.zero, i.size, i.bytes)) = some (some (.agg #[.int .i64 0, .string ByteArray.empty, .slice none 0 0]), 3, 48) := by kernel_rfl
theorem sz214 : (Tryz.prog.info? 214).map (·.size) = some 3 := by kernel_rfl
theorem ze214 : (Tryz.prog.info? 214).map (·.zero) = some (some (.agg #[.int .i64 0, .string ByteArray.empty, .slice none 0 0])) := by kernel_rfl
theorem pl214 (w : World) : ((#[{ name := "ID", type := 3, offset := 0, embedded := false, tag := "", pkgPath := "", byteOffset := 0 }, { name := "Name", type := 9, offset := 1, embedded := false, tag := "", pkgPath := "", byteOffset := 8 }, { name := "Parts", type := 213, offset := 2, embedded := false, tag := "", pkgPath := "", byteOffset := 24 }] : Array Field).mapM (m := Sem) fun f => do pure (f.offset, ← sizeOf f.type)).run Tryz.prog w = .ok #[(0, 1), (1, 1), (2, 1)] w := by kernel_rfl
theorem in215 : (Tryz.prog.info? 215).map (fun i => (i.zero, i.size, i.bytes)) = some (some (.agg #[.int .i64 0, .string ByteArray.empty, .slice none 0 0]), 3, 48) := by kernel_rfl
theorem sz215 : (Tryz.prog.info? 215).map (·.size) = some 3 := by kernel_rfl
theorem ze215 : (Tryz.prog.info? 215).map (·.zero) = some (some (.agg #[.int .i64 0, .string ByteArray.empty, .slice none 0 0])) := by kernel_rfl
theorem pl215 (w : World) : ((#[{ name := "ID", type := 3, offset := 0, embedded := false, tag := "", pkgPath := "", byteOffset := 0 }, { name := "Name", type := 9, offset := 1, embedded := false, tag := "", pkgPath := "", byteOffset := 8 }, { name := "Parts", type := 213, offset := 2, embedded := false, tag := "", pkgPath := "", byteOffset := 24 }] : Array Field).mapM (m := Sem) fun f => do pure (f.offset, ← sizeOf f.type)).run Tryz.prog w = .ok #[(0, 1), (1, 1), (2, 1)] w := by kernel_rfl
theorem in216 : (Tryz.prog.info? 216).map (fun i => (i.zero, i.size, i.bytes)) = some (some (.agg #[.int .i64 0, .slice none 0 0]), 2, 32) := by kernel_rfl
theorem sz216 : (Tryz.prog.info? 216).map (·.size) = some 2 := by kernel_rfl
theorem ze216 : (Tryz.prog.info? 216).map (·.zero) = some (some (.agg #[.int .i64 0, .slice none 0 0])) := by kernel_rfl
theorem pl216 (w : World) : ((#[{ name := "N", type := 3, offset := 0, embedded := false, tag := "", pkgPath := "", byteOffset := 0 }, { name := "Bytes", type := 64, offset := 1, embedded := false, tag := "", pkgPath := "", byteOffset := 8 }] : Array Field).mapM (m := Sem) fun f => do pure (f.offset, ← sizeOf f.type)).run Tryz.prog w = .ok #[(0, 1), (1, 1)] w := by kernel_rfl
theorem in217 : (Tryz.prog.info? 217).map (fun i => (i.zero, i.size, i.bytes)) = some (some (.agg #[.int .i64 0, .slice none 0 0]), 2, 32) := by kernel_rfl
theorem sz217 : (Tryz.prog.info? 217).map (·.size) = some 2 := by kernel_rfl
theorem ze217 : (Tryz.prog.info? 217).map (·.zero) = some (some (.agg #[.int .i64 0, .slice none 0 0])) := by kernel_rfl
theorem pl217 (w : World) : ((#[{ name := "N", type := 3, offset := 0, embedded := false, tag := "", pkgPath := "", byteOffset := 0 }, { name := "Bytes", type := 64, offset := 1, embedded := false, tag := "", pkgPath := "", byteOffset := 8 }] : Array Field).mapM (m := Sem) fun f => do pure (f.offset, ← sizeOf f.type)).run Tryz.prog w = .ok #[(0, 1), (1, 1)] w := by kernel_rfl
theorem in218 : (Tryz.prog.info? 218).map (fun i => (i.zero, i.size, i.bytes)) = some (some (.nilFunc), 1, 8) := by kernel_rfl
theorem sz218 : (Tryz.prog.info? 218).map (·.size) = some 1 := by kernel_rfl
theorem ze218 : (Tryz.prog.info? 218).map (·.zero) = some (some (.nilFunc)) := by kernel_rfl
theorem zs218 : (Tryz.prog.info? 218).map (fun i => (i.zero, i.size)) = some (some (.nilFunc), 1) := by kernel_rfl
theorem in219 : (Tryz.prog.info? 219).map (fun i => (i.zero, i.size, i.bytes)) = some (some (.nilFunc), 1, 8) := by kernel_rfl
theorem sz219 : (Tryz.prog.info? 219).map (·.size) = some 1 := by kernel_rfl
theorem ze219 : (Tryz.prog.info? 219).map (·.zero) = some (some (.nilFunc)) := by kernel_rfl
theorem zs219 : (Tryz.prog.info? 219).map (fun i => (i.zero, i.size)) = some (some (.nilFunc), 1) := by kernel_rfl
theorem in221 : (Tryz.prog.info? 221).map (fun i => (i.zero, i.size, i.bytes)) = some (some (.nilFunc), 1, 8) := by kernel_rfl
theorem sz221 : (Tryz.prog.info? 221).map (·.size) = some 1 := by kernel_rfl
theorem ze221 : (Tryz.prog.info? 221).map (·.zero) = some (some (.nilFunc)) := by kernel_rfl
theorem zs221 : (Tryz.prog.info? 221).map (fun i => (i.zero, i.size)) = some (some (.nilFunc), 1) := by kernel_rfl
theorem in222 : (Tryz.prog.info? 222).map (fun i => (i.zero, i.size, i.bytes)) = some (some (.pointer none), 1, 8) := by kernel_rfl
theorem sz222 : (Tryz.prog.info? 222).map (·.size) = some 1 := by kernel_rfl
theorem ze222 : (Tryz.prog.info? 222).map (·.zero) = some (some (.pointer none)) := by kernel_rfl
theorem zs222 : (Tryz.prog.info? 222).map (fun i => (i.zero, i.size)) = some (some (.pointer none), 1) := by kernel_rfl
theorem in223 : (Tryz.prog.info? 223).map (fun i => (i.zero, i.size, i.bytes)) = some (some (.agg #[.int .i64 0, .string ByteArray.empty, .slice none 0 0, .int .i64 0, .int .i64 0, .int .i64 0, .slice none 0 0, .int .i64 0, .int .u32 0, .slice none 0 0, .slice none 0 0, .int .i64 0]), 12, 168) := by kernel_rfl
theorem sz223 : (Tryz.prog.info? 223).map (·.size) = some 12 := by kernel_rfl
theorem ze223 : (Tryz.prog.info? 223).map (·.zero) = some (some (.agg #[.int .i64 0, .string ByteArray.empty, .slice none 0 0, .int .i64 0, .int .i64 0, .int .i64 0, .slice none 0 0, .int .i64 0, .int .u32 0, .slice none 0 0, .slice none 0 0, .int .i64 0])) := by kernel_rfl
theorem pl223 (w : World) : ((#[{ name := "kind", type := 3, offset := 0, embedded := false, tag := "", pkgPath := "cordwood/cordwoodref11", byteOffset := 0 }, { name := "name", type := 9, offset := 1, embedded := false, tag := "", pkgPath := "cordwood/cordwoodref11", byteOffset := 8 }, { name := "b", type := 64, offset := 2, embedded := false, tag := "", pkgPath := "cordwood/cordwoodref11", byteOffset := 24 }, { name := "off", type := 3, offset := 3, embedded := false, tag := "", pkgPath := "cordwood/cordwoodref11", byteOffset := 48 }, { name := "n", type := 3, offset := 4, embedded := false, tag := "", pkgPath := "cordwood/cordwoodref11", byteOffset := 56 }, { name := "id", type := 3, offset := 5, embedded := false, tag := "", pkgPath := "cordwood/cordwoodref11", byteOffset := 64 }, { name := "bytes", type := 64, offset := 6, embedded := false, tag := "", pkgPath := "cordwood/cordwoodref11", byteOffset := 72 }, { name := "size", type := 3, offset := 7, embedded := false, tag := "", pkgPath := "cordwood/cordwoodref11", byteOffset := 96 }, { name := "sum", type := 39, offset := 8, embedded := false, tag := "", pkgPath := "cordwood/cordwoodref11", byteOffset := 104 }, { name := "list", type := 48, offset := 9, embedded := false, tag := "", pkgPath := "cordwood/cordwoodref11", byteOffset := 112 }, { name := "ids", type := 22, offset := 10, embedded := false, tag := "", pkgPath := "cordwood/cordwoodref11", byteOffset := 136 }, { name := "num", type := 3, offset := 11, embedded := false, tag := "", pkgPath := "cordwood/cordwoodref11", byteOffset := 160 }] : Array Field).mapM (m := Sem) fun f => do pure (f.offset, ← sizeOf f.type)).run Tryz.prog w = .ok #[(0, 1), (1, 1), (2, 1), (3, 1), (4, 1), (5, 1), (6, 1), (7, 1), (8, 1), (9, 1), (10, 1), (11, 1)] w := by kernel_rfl
theorem in224 : (Tryz.prog.info? 224).map (fun i => (i.zero, i.size, i.bytes)) = some (some (.agg #[.int .i64 0, .string ByteArray.empty, .slice none 0 0, .int .i64 0, .int .i64 0, .int .i64 0, .slice none 0 0, .int .i64 0, .int .u32 0, .slice none 0 0, .slice none 0 0, .int .i64 0]), 12, 168) := by kernel_rfl
theorem sz224 : (Tryz.prog.info? 224).map (·.size) = some 12 := by kernel_rfl
theorem ze224 : (Tryz.prog.info? 224).map (·.zero) = some (some (.agg #[.int .i64 0, .string ByteArray.empty, .slice none 0 0, .int .i64 0, .int .i64 0, .int .i64 0, .slice none 0 0, .int .i64 0, .int .u32 0, .slice none 0 0, .slice none 0 0, .int .i64 0])) := by kernel_rfl
theorem pl224 (w : World) : ((#[{ name := "kind", type := 3, offset := 0, embedded := false, tag := "", pkgPath := "cordwood/cordwoodref11", byteOffset := 0 }, { name := "name", type := 9, offset := 1, embedded := false, tag := "", pkgPath := "cordwood/cordwoodref11", byteOffset := 8 }, { name := "b", type := 64, offset := 2, embedded := false, tag := "", pkgPath := "cordwood/cordwoodref11", byteOffset := 24 }, { name := "off", type := 3, offset := 3, embedded := false, tag := "", pkgPath := "cordwood/cordwoodref11", byteOffset := 48 }, { name := "n", type := 3, offset := 4, embedded := false, tag := "", pkgPath := "cordwood/cordwoodref11", byteOffset := 56 }, { name := "id", type := 3, offset := 5, embedded := false, tag := "", pkgPath := "cordwood/cordwoodref11", byteOffset := 64 }, { name := "bytes", type := 64, offset := 6, embedded := false, tag := "", pkgPath := "cordwood/cordwoodref11", byteOffset := 72 }, { name := "size", type := 3, offset := 7, embedded := false, tag := "", pkgPath := "cordwood/cordwoodref11", byteOffset := 96 }, { name := "sum", type := 39, offset := 8, embedded := false, tag := "", pkgPath := "cordwood/cordwoodref11", byteOffset := 104 }, { name := "list", type := 48, offset := 9, embedded := false, tag := "", pkgPath := "cordwood/cordwoodref11", byteOffset := 112 }, { name := "ids", type := 22, offset := 10, embedded := false, tag := "", pkgPath := "cordwood/cordwoodref11", byteOffset := 136 }, { name := "num", type := 3, offset := 11, embedded := false, tag := "", pkgPath := "cordwood/cordwoodref11", byteOffset := 160 }] : Array Field).mapM (m := Sem) fun f => do pure (f.offset, ← sizeOf f.type)).run Tryz.prog w = .ok #[(0, 1), (1, 1), (2, 1), (3, 1), (4, 1), (5, 1), (6, 1), (7, 1), (8, 1), (9, 1), (10, 1), (11, 1)] w := by kernel_rfl
theorem in225 : (Tryz.prog.info? 225).map (fun i => (i.zero, i.size, i.bytes)) = some (some (.nilFunc), 1, 8) := by kernel_rfl
theorem sz225 : (Tryz.prog.info? 225).map (·.size) = some 1 := by kernel_rfl
theorem ze225 : (Tryz.prog.info? 225).map (·.zero) = some (some (.nilFunc)) := by kernel_rfl
theorem zs225 : (Tryz.prog.info? 225).map (fun i => (i.zero, i.size)) = some (some (.nilFunc), 1) := by kernel_rfl
theorem in226 : (Tryz.prog.info? 226).map (fun i => (i.zero, i.size, i.bytes)) = some (some (.nilFunc), 1, 8) := by kernel_rfl
theorem sz226 : (Tryz.prog.info? 226).map (·.size) = some 1 := by kernel_rfl
theorem ze226 : (Tryz.prog.info? 226).map (·.zero) = some (some (.nilFunc)) := by kernel_rfl
theorem zs226 : (Tryz.prog.info? 226).map (fun i => (i.zero, i.size)) = some (some (.nilFunc), 1) := by kernel_rfl
theorem in227 : (Tryz.prog.info? 227).map (fun i => (i.zero, i.size, i.bytes)) = some (some (.nilFunc), 1, 8) := by kernel_rfl
theorem sz227 : (Tryz.prog.info? 227).map (·.size) = some 1 := by kernel_rfl
theorem ze227 : (Tryz.prog.info? 227).map (·.zero) = some (some (.nilFunc)) := by kernel_rfl
theorem zs227 : (Tryz.prog.info? 227).map (fun i => (i.zero, i.size)) = some (some (.nilFunc), 1) := by kernel_rfl
theorem in228 : (Tryz.prog.info? 228).map (fun i => (i.zero, i.size, i.bytes)) = some (some (.nilFunc), 1, 8) := by kernel_rfl
theorem sz228 : (Tryz.prog.info? 228).map (·.size) = some 1 := by kernel_rfl
theorem ze228 : (Tryz.prog.info? 228).map (·.zero) = some (some (.nilFunc)) := by kernel_rfl
theorem zs228 : (Tryz.prog.info? 228).map (fun i => (i.zero, i.size)) = some (some (.nilFunc), 1) := by kernel_rfl
theorem in229 : (Tryz.prog.info? 229).map (fun i => (i.zero, i.size, i.bytes)) = some (some (.nilFunc), 1, 8) := by kernel_rfl
theorem sz229 : (Tryz.prog.info? 229).map (·.size) = some 1 := by kernel_rfl
theorem ze229 : (Tryz.prog.info? 229).map (·.zero) = some (some (.nilFunc)) := by kernel_rfl
theorem zs229 : (Tryz.prog.info? 229).map (fun i => (i.zero, i.size)) = some (some (.nilFunc), 1) := by kernel_rfl
theorem in230 : (Tryz.prog.info? 230).map (fun i => (i.zero, i.size, i.bytes)) = some (some (.nilFunc), 1, 8) := by kernel_rfl
theorem sz230 : (Tryz.prog.info? 230).map (·.size) = some 1 := by kernel_rfl
theorem ze230 : (Tryz.prog.info? 230).map (·.zero) = some (some (.nilFunc)) := by kernel_rfl
theorem zs230 : (Tryz.prog.info? 230).map (fun i => (i.zero, i.size)) = some (some (.nilFunc), 1) := by kernel_rfl
theorem in231 : (Tryz.prog.info? 231).map (fun i => (i.zero, i.size, i.bytes)) = some (some (.nilFunc), 1, 8) := by kernel_rfl
theorem sz231 : (Tryz.prog.info? 231).map (·.size) = some 1 := by kernel_rfl
theorem ze231 : (Tryz.prog.info? 231).map (·.zero) = some (some (.nilFunc)) := by kernel_rfl
theorem zs231 : (Tryz.prog.info? 231).map (fun i => (i.zero, i.size)) = some (some (.nilFunc), 1) := by kernel_rfl
theorem in232 : (Tryz.prog.info? 232).map (fun i => (i.zero, i.size, i.bytes)) = some (some (.nilFunc), 1, 8) := by kernel_rfl
theorem sz232 : (Tryz.prog.info? 232).map (·.size) = some 1 := by kernel_rfl
theorem ze232 : (Tryz.prog.info? 232).map (·.zero) = some (some (.nilFunc)) := by kernel_rfl
theorem zs232 : (Tryz.prog.info? 232).map (fun i => (i.zero, i.size)) = some (some (.nilFunc), 1) := by kernel_rfl
theorem in233 : (Tryz.prog.info? 233).map (fun i => (i.zero, i.size, i.bytes)) = some (some (.nilFunc), 1, 8) := by kernel_rfl
theorem sz233 : (Tryz.prog.info? 233).map (·.size) = some 1 := by kernel_rfl
theorem ze233 : (Tryz.prog.info? 233).map (·.zero) = some (some (.nilFunc)) := by kernel_rfl
theorem zs233 : (Tryz.prog.info? 233).map (fun i => (i.zero, i.size)) = some (some (.nilFunc), 1) := by kernel_rfl
theorem in234 : (Tryz.prog.info? 234).map (fun i => (i.zero, i.size, i.bytes)) = some (some (.pointer none), 1, 8) := by kernel_rfl
theorem sz234 : (Tryz.prog.info? 234).map (·.size) = some 1 := by kernel_rfl
theorem ze234 : (Tryz.prog.info? 234).map (·.zero) = some (some (.pointer none)) := by kernel_rfl
theorem zs234 : (Tryz.prog.info? 234).map (fun i => (i.zero, i.size)) = some (some (.pointer none), 1) := by kernel_rfl
theorem in236 : (Tryz.prog.info? 236).map (fun i => (i.zero, i.size, i.bytes)) = some (some (.nilFunc), 1, 8) := by kernel_rfl
theorem sz236 : (Tryz.prog.info? 236).map (·.size) = some 1 := by kernel_rfl
theorem ze236 : (Tryz.prog.info? 236).map (·.zero) = some (some (.nilFunc)) := by kernel_rfl
theorem zs236 : (Tryz.prog.info? 236).map (fun i => (i.zero, i.size)) = some (some (.nilFunc), 1) := by kernel_rfl
theorem in237 : (Tryz.prog.info? 237).map (fun i => (i.zero, i.size, i.bytes)) = some (some (.nilFunc), 1, 8) := by kernel_rfl
theorem sz237 : (Tryz.prog.info? 237).map (·.size) = some 1 := by kernel_rfl
theorem ze237 : (Tryz.prog.info? 237).map (·.zero) = some (some (.nilFunc)) := by kernel_rfl
theorem zs237 : (Tryz.prog.info? 237).map (fun i => (i.zero, i.size)) = some (some (.nilFunc), 1) := by kernel_rfl
theorem in238 : (Tryz.prog.info? 238).map (fun i => (i.zero, i.size, i.bytes)) = some (some (.nilFunc), 1, 8) := by kernel_rfl
theorem sz238 : (Tryz.prog.info? 238).map (·.size) = some 1 := by kernel_rfl
theorem ze238 : (Tryz.prog.info? 238).map (·.zero) = some (some (.nilFunc)) := by kernel_rfl
theorem zs238 : (Tryz.prog.info? 238).map (fun i => (i.zero, i.size)) = some (some (.nilFunc), 1) := by kernel_rfl
theorem in239 : (Tryz.prog.info? 239).map (fun i => (i.zero, i.size, i.bytes)) = some (some (.nilFunc), 1, 8) := by kernel_rfl
theorem sz239 : (Tryz.prog.info? 239).map (·.size) = some 1 := by kernel_rfl
theorem ze239 : (Tryz.prog.info? 239).map (·.zero) = some (some (.nilFunc)) := by kernel_rfl
theorem zs239 : (Tryz.prog.info? 239).map (fun i => (i.zero, i.size)) = some (some (.nilFunc), 1) := by kernel_rfl
theorem in240 : (Tryz.prog.info? 240).map (fun i => (i.zero, i.size, i.bytes)) = some (some (.nilFunc), 1, 8) := by kernel_rfl
theorem sz240 : (Tryz.prog.info? 240).map (·.size) = some 1 := by kernel_rfl
theorem ze240 : (Tryz.prog.info? 240).map (·.zero) = some (some (.nilFunc)) := by kernel_rfl
theorem zs240 : (Tryz.prog.info? 240).map (fun i => (i.zero, i.size)) = some (some (.nilFunc), 1) := by kernel_rfl
theorem in241 : (Tryz.prog.info? 241).map (fun i => (i.zero, i.size, i.bytes)) = some (some (.int .u64 0), 1, 8) := by kernel_rfl
theorem sz241 : (Tryz.prog.info? 241).map (·.size) = some 1 := by kernel_rfl
theorem ze241 : (Tryz.prog.info? 241).map (·.zero) = some (some (.int .u64 0)) := by kernel_rfl
theorem zs241 : (Tryz.prog.info? 241).map (fun i => (i.zero, i.size)) = some (some (.int .u64 0), 1) := by kernel_rfl
theorem in242 : (Tryz.prog.info? 242).map (fun i => (i.zero, i.size, i.bytes)) = some (some (.agg #[.slice none 0 0, .int .i64 0, .nilIface]), 3, 48) := by kernel_rfl
theorem sz242 : (Tryz.prog.info? 242).map (·.size) = some 3 := by kernel_rfl
theorem ze242 : (Tryz.prog.info? 242).map (·.zero) = some (some (.agg #[.slice none 0 0, .int .i64 0, .nilIface])) := by kernel_rfl
theorem pl242 (w : World) : ((#[{ name := "b", type := 64, offset := 0, embedded := false, tag := "", pkgPath := "cordwood/vint", byteOffset := 0 }, { name := "at", type := 3, offset := 1, embedded := false, tag := "", pkgPath := "cordwood/vint", byteOffset := 24 }, { name := "err", type := 30, offset := 2, embedded := false, tag := "", pkgPath := "cordwood/vint", byteOffset := 32 }] : Array Field).mapM (m := Sem) fun f => do pure (f.offset, ← sizeOf f.type)).run Tryz.prog w = .ok #[(0, 1), (1, 1), (2, 1)] w := by kernel_rfl
theorem in243 : (Tryz.prog.info? 243).map (fun i => (i.zero, i.size, i.bytes)) = some (some (.agg #[.slice none 0 0, .int .i64 0, .nilIface]), 3, 48) := by kernel_rfl
theorem sz243 : (Tryz.prog.info? 243).map (·.size) = some 3 := by kernel_rfl
theorem ze243 : (Tryz.prog.info? 243).map (·.zero) = some (some (.agg #[.slice none 0 0, .int .i64 0, .nilIface])) := by kernel_rfl
theorem pl243 (w : World) : ((#[{ name := "b", type := 64, offset := 0, embedded := false, tag := "", pkgPath := "cordwood/vint", byteOffset := 0 }, { name := "at", type := 3, offset := 1, embedded := false, tag := "", pkgPath := "cordwood/vint", byteOffset := 24 }, { name := "err", type := 30, offset := 2, embedded := false, tag := "", pkgPath := "cordwood/vint", byteOffset := 32 }] : Array Field).mapM (m := Sem) fun f => do pure (f.offset, ← sizeOf f.type)).run Tryz.prog w = .ok #[(0, 1), (1, 1), (2, 1)] w := by kernel_rfl
theorem in245 : (Tryz.prog.info? 245).map (fun i => (i.zero, i.size, i.bytes)) = some (some (.nilFunc), 1, 8) := by kernel_rfl
theorem sz245 : (Tryz.prog.info? 245).map (·.size) = some 1 := by kernel_rfl
theorem ze245 : (Tryz.prog.info? 245).map (·.zero) = some (some (.nilFunc)) := by kernel_rfl
theorem zs245 : (Tryz.prog.info? 245).map (fun i => (i.zero, i.size)) = some (some (.nilFunc), 1) := by kernel_rfl
theorem in246 : (Tryz.prog.info? 246).map (fun i => (i.zero, i.size, i.bytes)) = some (some (.nilFunc), 1, 8) := by kernel_rfl
theorem sz246 : (Tryz.prog.info? 246).map (·.size) = some 1 := by kernel_rfl
theorem ze246 : (Tryz.prog.info? 246).map (·.zero) = some (some (.nilFunc)) := by kernel_rfl
theorem zs246 : (Tryz.prog.info? 246).map (fun i => (i.zero, i.size)) = some (some (.nilFunc), 1) := by kernel_rfl
theorem in247 : (Tryz.prog.info? 247).map (fun i => (i.zero, i.size, i.bytes)) = some (some (.nilFunc), 1, 8) := by kernel_rfl
theorem sz247 : (Tryz.prog.info? 247).map (·.size) = some 1 := by kernel_rfl
theorem ze247 : (Tryz.prog.info? 247).map (·.zero) = some (some (.nilFunc)) := by kernel_rfl
theorem zs247 : (Tryz.prog.info? 247).map (fun i => (i.zero, i.size)) = some (some (.nilFunc), 1) := by kernel_rfl
theorem in249 : (Tryz.prog.info? 249).map (fun i => (i.zero, i.size, i.bytes)) = some (some (.nilFunc), 1, 8) := by kernel_rfl
theorem sz249 : (Tryz.prog.info? 249).map (·.size) = some 1 := by kernel_rfl
theorem ze249 : (Tryz.prog.info? 249).map (·.zero) = some (some (.nilFunc)) := by kernel_rfl
theorem zs249 : (Tryz.prog.info? 249).map (fun i => (i.zero, i.size)) = some (some (.nilFunc), 1) := by kernel_rfl
theorem in250 : (Tryz.prog.info? 250).map (fun i => (i.zero, i.size, i.bytes)) = some (some (.nilFunc), 1, 8) := by kernel_rfl
theorem sz250 : (Tryz.prog.info? 250).map (·.size) = some 1 := by kernel_rfl
theorem ze250 : (Tryz.prog.info? 250).map (·.zero) = some (some (.nilFunc)) := by kernel_rfl
theorem zs250 : (Tryz.prog.info? 250).map (fun i => (i.zero, i.size)) = some (some (.nilFunc), 1) := by kernel_rfl
theorem in251 : (Tryz.prog.info? 251).map (fun i => (i.zero, i.size, i.bytes)) = some (some (.nilFunc), 1, 8) := by kernel_rfl
theorem sz251 : (Tryz.prog.info? 251).map (·.size) = some 1 := by kernel_rfl
theorem ze251 : (Tryz.prog.info? 251).map (·.zero) = some (some (.nilFunc)) := by kernel_rfl
theorem zs251 : (Tryz.prog.info? 251).map (fun i => (i.zero, i.size)) = some (some (.nilFunc), 1) := by kernel_rfl
theorem in252 : (Tryz.prog.info? 252).map (fun i => (i.zero, i.size, i.bytes)) = some (some (.nilFunc), 1, 8) := by kernel_rfl
theorem sz252 : (Tryz.prog.info? 252).map (·.size) = some 1 := by kernel_rfl
theorem ze252 : (Tryz.prog.info? 252).map (·.zero) = some (some (.nilFunc)) := by kernel_rfl
theorem zs252 : (Tryz.prog.info? 252).map (fun i => (i.zero, i.size)) = some (some (.nilFunc), 1) := by kernel_rfl
theorem in253 : (Tryz.prog.info? 253).map (fun i => (i.zero, i.size, i.bytes)) = some (some (.nilFunc), 1, 8) := by kernel_rfl
theorem sz253 : (Tryz.prog.info? 253).map (·.size) = some 1 := by kernel_rfl
theorem ze253 : (Tryz.prog.info? 253).map (·.zero) = some (some (.nilFunc)) := by kernel_rfl
theorem zs253 : (Tryz.prog.info? 253).map (fun i => (i.zero, i.size)) = some (some (.nilFunc), 1) := by kernel_rfl
theorem in254 : (Tryz.prog.info? 254).map (fun i => (i.zero, i.size, i.bytes)) = some (some (.nilFunc), 1, 8) := by kernel_rfl
theorem sz254 : (Tryz.prog.info? 254).map (·.size) = some 1 := by kernel_rfl
theorem ze254 : (Tryz.prog.info? 254).map (·.zero) = some (some (.nilFunc)) := by kernel_rfl
theorem zs254 : (Tryz.prog.info? 254).map (fun i => (i.zero, i.size)) = some (some (.nilFunc), 1) := by kernel_rfl
theorem in255 : (Tryz.prog.info? 255).map (fun i => (i.zero, i.size, i.bytes)) = some (some (.nilFunc), 1, 8) := by kernel_rfl
theorem sz255 : (Tryz.prog.info? 255).map (·.size) = some 1 := by kernel_rfl
theorem ze255 : (Tryz.prog.info? 255).map (·.zero) = some (some (.nilFunc)) := by kernel_rfl
theorem zs255 : (Tryz.prog.info? 255).map (fun i => (i.zero, i.size)) = some (some (.nilFunc), 1) := by kernel_rfl
theorem in256 : (Tryz.prog.info? 256).map (fun i => (i.zero, i.size, i.bytes)) = some (some (.nilFunc), 1, 8) := by kernel_rfl
theorem sz256 : (Tryz.prog.info? 256).map (·.size) = some 1 := by kernel_rfl
theorem ze256 : (Tryz.prog.info? 256).map (·.zero) = some (some (.nilFunc)) := by kernel_rfl
theorem zs256 : (Tryz.prog.info? 256).map (fun i => (i.zero, i.size)) = some (some (.nilFunc), 1) := by kernel_rfl
theorem in257 : (Tryz.prog.info? 257).map (fun i => (i.zero, i.size, i.bytes)) = some (some (.nilFunc), 1, 8) := by kernel_rfl
theorem sz257 : (Tryz.prog.info? 257).map (·.size) = some 1 := by kernel_rfl
theorem ze257 : (Tryz.prog.info? 257).map (·.zero) = some (some (.nilFunc)) := by kernel_rfl
theorem zs257 : (Tryz.prog.info? 257).map (fun i => (i.zero, i.size)) = some (some (.nilFunc), 1) := by kernel_rfl
theorem in258 : (Tryz.prog.info? 258).map (fun i => (i.zero, i.size, i.bytes)) = some (some (.nilFunc), 1, 8) := by kernel_rfl
theorem sz258 : (Tryz.prog.info? 258).map (·.size) = some 1 := by kernel_rfl
theorem ze258 : (Tryz.prog.info? 258).map (·.zero) = some (some (.nilFunc)) := by kernel_rfl
theorem zs258 : (Tryz.prog.info? 258).map (fun i => (i.zero, i.size)) = some (some (.nilFunc), 1) := by kernel_rfl
theorem in259 : (Tryz.prog.info? 259).map (fun i => (i.zero, i.size, i.bytes)) = some (some (.nilFunc), 1, 8) := by kernel_rfl
theorem sz259 : (Tryz.prog.info? 259).map (·.size) = some 1 := by kernel_rfl
theorem ze259 : (Tryz.prog.info? 259).map (·.zero) = some (some (.nilFunc)) := by kernel_rfl
theorem zs259 : (Tryz.prog.info? 259).map (fun i => (i.zero, i.size)) = some (some (.nilFunc), 1) := by kernel_rfl
theorem in260 : (Tryz.prog.info? 260).map (fun i => (i.zero, i.size, i.bytes)) = some (some (.nilFunc), 1, 8) := by kernel_rfl
theorem sz260 : (Tryz.prog.info? 260).map (·.size) = some 1 := by kernel_rfl
theorem ze260 : (Tryz.prog.info? 260).map (·.zero) = some (some (.nilFunc)) := by kernel_rfl
theorem zs260 : (Tryz.prog.info? 260).map (fun i => (i.zero, i.size)) = some (some (.nilFunc), 1) := by kernel_rfl
theorem in261 : (Tryz.prog.info? 261).map (fun i => (i.zero, i.size, i.bytes)) = some (some (.nilFunc), 1, 8) := by kernel_rfl
theorem sz261 : (Tryz.prog.info? 261).map (·.size) = some 1 := by kernel_rfl
theorem ze261 : (Tryz.prog.info? 261).map (·.zero) = some (some (.nilFunc)) := by kernel_rfl
theorem zs261 : (Tryz.prog.info? 261).map (fun i => (i.zero, i.size)) = some (some (.nilFunc), 1) := by kernel_rfl
theorem in262 : (Tryz.prog.info? 262).map (fun i => (i.zero, i.size, i.bytes)) = some (some (.nilFunc), 1, 8) := by kernel_rfl
theorem sz262 : (Tryz.prog.info? 262).map (·.size) = some 1 := by kernel_rfl
theorem ze262 : (Tryz.prog.info? 262).map (·.zero) = some (some (.nilFunc)) := by kernel_rfl
theorem zs262 : (Tryz.prog.info? 262).map (fun i => (i.zero, i.size)) = some (some (.nilFunc), 1) := by kernel_rfl
theorem in263 : (Tryz.prog.info? 263).map (fun i => (i.zero, i.size, i.bytes)) = some (some (.nilFunc), 1, 8) := by kernel_rfl
theorem sz263 : (Tryz.prog.info? 263).map (·.size) = some 1 := by kernel_rfl
theorem ze263 : (Tryz.prog.info? 263).map (·.zero) = some (some (.nilFunc)) := by kernel_rfl
theorem zs263 : (Tryz.prog.info? 263).map (fun i => (i.zero, i.size)) = some (some (.nilFunc), 1) := by kernel_rfl
theorem in264 : (Tryz.prog.info? 264).map (fun i => (i.zero, i.size, i.bytes)) = some (some (.nilFunc), 1, 8) := by kernel_rfl
theorem sz264 : (Tryz.prog.info? 264).map (·.size) = some 1 := by kernel_rfl
theorem ze264 : (Tryz.prog.info? 264).map (·.zero) = some (some (.nilFunc)) := by kernel_rfl
theorem zs264 : (Tryz.prog.info? 264).map (fun i => (i.zero, i.size)) = some (some (.nilFunc), 1) := by kernel_rfl
theorem in265 : (Tryz.prog.info? 265).map (fun i => (i.zero, i.size, i.bytes)) = some (some (.nilFunc), 1, 8) := by kernel_rfl
theorem sz265 : (Tryz.prog.info? 265).map (·.size) = some 1 := by kernel_rfl
theorem ze265 : (Tryz.prog.info? 265).map (·.zero) = some (some (.nilFunc)) := by kernel_rfl
theorem zs265 : (Tryz.prog.info? 265).map (fun i => (i.zero, i.size)) = some (some (.nilFunc), 1) := by kernel_rfl
theorem in266 : (Tryz.prog.info? 266).map (fun i => (i.zero, i.size, i.bytes)) = some (some (.nilFunc), 1, 8) := by kernel_rfl
theorem sz266 : (Tryz.prog.info? 266).map (·.size) = some 1 := by kernel_rfl
theorem ze266 : (Tryz.prog.info? 266).map (·.zero) = some (some (.nilFunc)) := by kernel_rfl
theorem zs266 : (Tryz.prog.info? 266).map (fun i => (i.zero, i.size)) = some (some (.nilFunc), 1) := by kernel_rfl
theorem in267 : (Tryz.prog.info? 267).map (fun i => (i.zero, i.size, i.bytes)) = some (some (.nilFunc), 1, 8) := by kernel_rfl
theorem sz267 : (Tryz.prog.info? 267).map (·.size) = some 1 := by kernel_rfl
theorem ze267 : (Tryz.prog.info? 267).map (·.zero) = some (some (.nilFunc)) := by kernel_rfl
theorem zs267 : (Tryz.prog.info? 267).map (fun i => (i.zero, i.size)) = some (some (.nilFunc), 1) := by kernel_rfl
theorem in268 : (Tryz.prog.info? 268).map (fun i => (i.zero, i.size, i.bytes)) = some (some (.nilFunc), 1, 8) := by kernel_rfl
theorem sz268 : (Tryz.prog.info? 268).map (·.size) = some 1 := by kernel_rfl
theorem ze268 : (Tryz.prog.info? 268).map (·.zero) = some (some (.nilFunc)) := by kernel_rfl
theorem zs268 : (Tryz.prog.info? 268).map (fun i => (i.zero, i.size)) = some (some (.nilFunc), 1) := by kernel_rfl
theorem in269 : (Tryz.prog.info? 269).map (fun i => (i.zero, i.size, i.bytes)) = some (some (.nilFunc), 1, 8) := by kernel_rfl
theorem sz269 : (Tryz.prog.info? 269).map (·.size) = some 1 := by kernel_rfl
theorem ze269 : (Tryz.prog.info? 269).map (·.zero) = some (some (.nilFunc)) := by kernel_rfl
theorem zs269 : (Tryz.prog.info? 269).map (fun i => (i.zero, i.size)) = some (some (.nilFunc), 1) := by kernel_rfl
theorem in270 : (Tryz.prog.info? 270).map (fun i => (i.zero, i.size, i.bytes)) = some (some (.agg #[.slice none 0 0]), 1, 24) := by kernel_rfl
theorem sz270 : (Tryz.prog.info? 270).map (·.size) = some 1 := by kernel_rfl
theorem ze270 : (Tryz.prog.info? 270).map (·.zero) = some (some (.agg #[.slice none 0 0])) := by kernel_rfl
theorem zs270 : (Tryz.prog.info? 270).map (fun i => (i.zero, i.size)) = some (some (.agg #[.slice none 0 0]), 1) := by kernel_rfl
theorem pl270 (w : World) : ((#[{ name := "l", type := 33, offset := 0, embedded := false, tag := "", pkgPath := "cordwood/epoch", byteOffset := 0 }] : Array Field).mapM (m := Sem) fun f => do pure (f.offset, ← sizeOf f.type)).run Tryz.prog w = .ok #[(0, 1)] w := by kernel_rfl
theorem in271 : (Tryz.prog.info? 271).map (fun i => (i.zero, i.size, i.bytes)) = some (some (.agg #[.slice none 0 0]), 1, 24) := by kernel_rfl
theorem sz271 : (Tryz.prog.info? 271).map (·.size) = some 1 := by kernel_rfl
theorem ze271 : (Tryz.prog.info? 271).map (·.zero) = some (some (.agg #[.slice none 0 0])) := by kernel_rfl
theorem zs271 : (Tryz.prog.info? 271).map (fun i => (i.zero, i.size)) = some (some (.agg #[.slice none 0 0]), 1) := by kernel_rfl
theorem pl271 (w : World) : ((#[{ name := "l", type := 33, offset := 0, embedded := false, tag := "", pkgPath := "cordwood/epoch", byteOffset := 0 }] : Array Field).mapM (m := Sem) fun f => do pure (f.offset, ← sizeOf f.type)).run Tryz.prog w = .ok #[(0, 1)] w := by kernel_rfl
theorem in272 : (Tryz.prog.info? 272).map (fun i => (i.zero, i.size, i.bytes)) = some (some (.nilFunc), 1, 8) := by kernel_rfl
theorem sz272 : (Tryz.prog.info? 272).map (·.size) = some 1 := by kernel_rfl
theorem ze272 : (Tryz.prog.info? 272).map (·.zero) = some (some (.nilFunc)) := by kernel_rfl
theorem zs272 : (Tryz.prog.info? 272).map (fun i => (i.zero, i.size)) = some (some (.nilFunc), 1) := by kernel_rfl
theorem in273 : (Tryz.prog.info? 273).map (fun i => (i.zero, i.size, i.bytes)) = some (some (.nilFunc), 1, 8) := by kernel_rfl
theorem sz273 : (Tryz.prog.info? 273).map (·.size) = some 1 := by kernel_rfl
theorem ze273 : (Tryz.prog.info? 273).map (·.zero) = some (some (.nilFunc)) := by kernel_rfl
theorem zs273 : (Tryz.prog.info? 273).map (fun i => (i.zero, i.size)) = some (some (.nilFunc), 1) := by kernel_rfl
theorem in275 : (Tryz.prog.info? 275).map (fun i => (i.zero, i.size, i.bytes)) = some (some (.nilFunc), 1, 8) := by kernel_rfl
theorem sz275 : (Tryz.prog.info? 275).map (·.size) = some 1 := by kernel_rfl
theorem ze275 : (Tryz.prog.info? 275).map (·.zero) = some (some (.nilFunc)) := by kernel_rfl
theorem zs275 : (Tryz.prog.info? 275).map (fun i => (i.zero, i.size)) = some (some (.nilFunc), 1) := by kernel_rfl
theorem in276 : (Tryz.prog.info? 276).map (fun i => (i.zero, i.size, i.bytes)) = some (some (.slice none 0 0), 1, 24) := by kernel_rfl
theorem sz276 : (Tryz.prog.info? 276).map (·.size) = some 1 := by kernel_rfl
theorem ze276 : (Tryz.prog.info? 276).map (·.zero) = some (some (.slice none 0 0)) := by kernel_rfl
theorem zs276 : (Tryz.prog.info? 276).map (fun i => (i.zero, i.size)) = some (some (.slice none 0 0), 1) := by kernel_rfl
theorem in277 : (Tryz.prog.info? 277).map (fun i => (i.zero, i.size, i.bytes)) = some (some (.nilFunc), 1, 8) := by kernel_rfl
theorem sz277 : (Tryz.prog.info? 277).map (·.size) = some 1 := by kernel_rfl
theorem ze277 : (Tryz.prog.info? 277).map (·.zero) = some (some (.nilFunc)) := by kernel_rfl
theorem zs277 : (Tryz.prog.info? 277).map (fun i => (i.zero, i.size)) = some (some (.nilFunc), 1) := by kernel_rfl
theorem in278 : (Tryz.prog.info? 278).map (fun i => (i.zero, i.size, i.bytes)) = some (some (.nilFunc), 1, 8) := by kernel_rfl
theorem sz278 : (Tryz.prog.info? 278).map (·.size) = some 1 := by kernel_rfl
theorem ze278 : (Tryz.prog.info? 278).map (·.zero) = some (some (.nilFunc)) := by kernel_rfl
theorem zs278 : (Tryz.prog.info? 278).map (fun i => (i.zero, i.size)) = some (some (.nilFunc), 1) := by kernel_rfl
theorem in279 : (Tryz.prog.info? 279).map (fun i => (i.zero, i.size, i.bytes)) = some (some (.nilFunc), 1, 8) := by kernel_rfl
theorem sz279 : (Tryz.prog.info? 279).map (·.size) = some 1 := by kernel_rfl
theorem ze279 : (Tryz.prog.info? 279).map (·.zero) = some (some (.nilFunc)) := by kernel_rfl
theorem zs279 : (Tryz.prog.info? 279).map (fun i => (i.zero, i.size)) = some (some (.nilFunc), 1) := by kernel_rfl
theorem in280 : (Tryz.prog.info? 280).map (fun i => (i.zero, i.size, i.bytes)) = some (some (.nilFunc), 1, 8) := by kernel_rfl
theorem sz280 : (Tryz.prog.info? 280).map (·.size) = some 1 := by kernel_rfl
theorem ze280 : (Tryz.prog.info? 280).map (·.zero) = some (some (.nilFunc)) := by kernel_rfl
theorem zs280 : (Tryz.prog.info? 280).map (fun i => (i.zero, i.size)) = some (some (.nilFunc), 1) := by kernel_rfl
theorem in281 : (Tryz.prog.info? 281).map (fun i => (i.zero, i.size, i.bytes)) = some (some (.nilFunc), 1, 8) := by kernel_rfl
theorem sz281 : (Tryz.prog.info? 281).map (·.size) = some 1 := by kernel_rfl
theorem ze281 : (Tryz.prog.info? 281).map (·.zero) = some (some (.nilFunc)) := by kernel_rfl
theorem zs281 : (Tryz.prog.info? 281).map (fun i => (i.zero, i.size)) = some (some (.nilFunc), 1) := by kernel_rfl
theorem in282 : (Tryz.prog.info? 282).map (fun i => (i.zero, i.size, i.bytes)) = some (some (.nilFunc), 1, 8) := by kernel_rfl
theorem sz282 : (Tryz.prog.info? 282).map (·.size) = some 1 := by kernel_rfl
theorem ze282 : (Tryz.prog.info? 282).map (·.zero) = some (some (.nilFunc)) := by kernel_rfl
theorem zs282 : (Tryz.prog.info? 282).map (fun i => (i.zero, i.size)) = some (some (.nilFunc), 1) := by kernel_rfl
theorem in283 : (Tryz.prog.info? 283).map (fun i => (i.zero, i.size, i.bytes)) = some (some (.agg #[.int .u32 0, .int .u32 0, .int .u32 0, .int .u32 0, .int .u32 0, .int .u32 0, .int .u32 0, .int .u32 0, .int .u32 0, .int .u32 0, .int .u32 0, .int .u32 0, .int .u32 0, .int .u32 0, .int .u32 0, .int .u32 0]), 16, 64) := by kernel_rfl
theorem sz283 : (Tryz.prog.info? 283).map (·.size) = some 16 := by kernel_rfl
theorem ze283 : (Tryz.prog.info? 283).map (·.zero) = some (some (.agg #[.int .u32 0, .int .u32 0, .int .u32 0, .int .u32 0, .int .u32 0, .int .u32 0, .int .u32 0, .int .u32 0, .int .u32 0, .int .u32 0, .int .u32 0, .int .u32 0, .int .u32 0, .int .u32 0, .int .u32 0, .int .u32 0])) := by kernel_rfl
theorem in284 : (Tryz.prog.info? 284).map (fun i => (i.zero, i.size, i.bytes)) = some (some (.nilFunc), 1, 8) := by kernel_rfl
theorem sz284 : (Tryz.prog.info? 284).map (·.size) = some 1 := by kernel_rfl
theorem ze284 : (Tryz.prog.info? 284).map (·.zero) = some (some (.nilFunc)) := by kernel_rfl
theorem zs284 : (Tryz.prog.info? 284).map (fun i => (i.zero, i.size)) = some (some (.nilFunc), 1) := by kernel_rfl
theorem in285 : (Tryz.prog.info? 285).map (fun i => (i.zero, i.size, i.bytes)) = some (some (.nilFunc), 1, 8) := by kernel_rfl
theorem sz285 : (Tryz.prog.info? 285).map (·.size) = some 1 := by kernel_rfl
theorem ze285 : (Tryz.prog.info? 285).map (·.zero) = some (some (.nilFunc)) := by kernel_rfl
theorem zs285 : (Tryz.prog.info? 285).map (fun i => (i.zero, i.size)) = some (some (.nilFunc), 1) := by kernel_rfl
theorem in286 : (Tryz.prog.info? 286).map (fun i => (i.zero, i.size, i.bytes)) = some (some (.int .i64 0), 1, 8) := by kernel_rfl
theorem sz286 : (Tryz.prog.info? 286).map (·.size) = some 1 := by kernel_rfl
theorem ze286 : (Tryz.prog.info? 286).map (·.zero) = some (some (.int .i64 0)) := by kernel_rfl
theorem zs286 : (Tryz.prog.info? 286).map (fun i => (i.zero, i.size)) = some (some (.int .i64 0), 1) := by kernel_rfl
theorem in288 : (Tryz.prog.info? 288).map (fun i => (i.zero, i.size, i.bytes)) = some (some (.nilFunc), 1, 8) := by kernel_rfl
theorem sz288 : (Tryz.prog.info? 288).map (·.size) = some 1 := by kernel_rfl
theorem ze288 : (Tryz.prog.info? 288).map (·.zero) = some (some (.nilFunc)) := by kernel_rfl
theorem zs288 : (Tryz.prog.info? 288).map (fun i => (i.zero, i.size)) = some (some (.nilFunc), 1) := by kernel_rfl
theorem in289 : (Tryz.prog.info? 289).map (fun i => (i.zero, i.size, i.bytes)) = some (some (.nilFunc), 1, 8) := by kernel_rfl
theorem sz289 : (Tryz.prog.info? 289).map (·.size) = some 1 := by kernel_rfl
theorem ze289 : (Tryz.prog.info? 289).map (·.zero) = some (some (.nilFunc)) := by kernel_rfl
theorem zs289 : (Tryz.prog.info? 289).map (fun i => (i.zero, i.size)) = some (some (.nilFunc), 1) := by kernel_rfl
theorem in290 : (Tryz.prog.info? 290).map (fun i => (i.zero, i.size, i.bytes)) = some (some (.nilFunc), 1, 8) := by kernel_rfl
theorem sz290 : (Tryz.prog.info? 290).map (·.size) = some 1 := by kernel_rfl
theorem ze290 : (Tryz.prog.info? 290).map (·.zero) = some (some (.nilFunc)) := by kernel_rfl
theorem zs290 : (Tryz.prog.info? 290).map (fun i => (i.zero, i.size)) = some (some (.nilFunc), 1) := by kernel_rfl
theorem in291 : (Tryz.prog.info? 291).map (fun i => (i.zero, i.size, i.bytes)) = some (some (.nilFunc), 1, 8) := by kernel_rfl
theorem sz291 : (Tryz.prog.info? 291).map (·.size) = some 1 := by kernel_rfl
theorem ze291 : (Tryz.prog.info? 291).map (·.zero) = some (some (.nilFunc)) := by kernel_rfl
theorem zs291 : (Tryz.prog.info? 291).map (fun i => (i.zero, i.size)) = some (some (.nilFunc), 1) := by kernel_rfl
theorem in292 : (Tryz.prog.info? 292).map (fun i => (i.zero, i.size, i.bytes)) = some (some (.nilFunc), 1, 8) := by kernel_rfl
theorem sz292 : (Tryz.prog.info? 292).map (·.size) = some 1 := by kernel_rfl
theorem ze292 : (Tryz.prog.info? 292).map (·.zero) = some (some (.nilFunc)) := by kernel_rfl
theorem zs292 : (Tryz.prog.info? 292).map (fun i => (i.zero, i.size)) = some (some (.nilFunc), 1) := by kernel_rfl
theorem in293 : (Tryz.prog.info? 293).map (fun i => (i.zero, i.size, i.bytes)) = some (some (.nilFunc), 1, 8) := by kernel_rfl
theorem sz293 : (Tryz.prog.info? 293).map (·.size) = some 1 := by kernel_rfl
theorem ze293 : (Tryz.prog.info? 293).map (·.zero) = some (some (.nilFunc)) := by kernel_rfl
theorem zs293 : (Tryz.prog.info? 293).map (fun i => (i.zero, i.size)) = some (some (.nilFunc), 1) := by kernel_rfl
theorem in294 : (Tryz.prog.info? 294).map (fun i => (i.zero, i.size, i.bytes)) = some (some (.nilFunc), 1, 8) := by kernel_rfl
theorem sz294 : (Tryz.prog.info? 294).map (·.size) = some 1 := by kernel_rfl
theorem ze294 : (Tryz.prog.info? 294).map (·.zero) = some (some (.nilFunc)) := by kernel_rfl
theorem zs294 : (Tryz.prog.info? 294).map (fun i => (i.zero, i.size)) = some (some (.nilFunc), 1) := by kernel_rfl
theorem in295 : (Tryz.prog.info? 295).map (fun i => (i.zero, i.size, i.bytes)) = some (some (.nilFunc), 1, 8) := by kernel_rfl
theorem sz295 : (Tryz.prog.info? 295).map (·.size) = some 1 := by kernel_rfl
theorem ze295 : (Tryz.prog.info? 295).map (·.zero) = some (some (.nilFunc)) := by kernel_rfl
theorem zs295 : (Tryz.prog.info? 295).map (fun i => (i.zero, i.size)) = some (some (.nilFunc), 1) := by kernel_rfl
theorem in296 : (Tryz.prog.info? 296).map (fun i => (i.zero, i.size, i.bytes)) = some (some (.nilFunc), 1, 8) := by kernel_rfl
theorem sz296 : (Tryz.prog.info? 296).map (·.size) = some 1 := by kernel_rfl
theorem ze296 : (Tryz.prog.info? 296).map (·.zero) = some (some (.nilFunc)) := by kernel_rfl
theorem zs296 : (Tryz.prog.info? 296).map (fun i => (i.zero, i.size)) = some (some (.nilFunc), 1) := by kernel_rfl
theorem in297 : (Tryz.prog.info? 297).map (fun i => (i.zero, i.size, i.bytes)) = some (some (.nilFunc), 1, 8) := by kernel_rfl
theorem sz297 : (Tryz.prog.info? 297).map (·.size) = some 1 := by kernel_rfl
theorem ze297 : (Tryz.prog.info? 297).map (·.zero) = some (some (.nilFunc)) := by kernel_rfl
theorem zs297 : (Tryz.prog.info? 297).map (fun i => (i.zero, i.size)) = some (some (.nilFunc), 1) := by kernel_rfl
theorem in298 : (Tryz.prog.info? 298).map (fun i => (i.zero, i.size, i.bytes)) = some (some (.nilFunc), 1, 8) := by kernel_rfl
theorem sz298 : (Tryz.prog.info? 298).map (·.size) = some 1 := by kernel_rfl
theorem ze298 : (Tryz.prog.info? 298).map (·.zero) = some (some (.nilFunc)) := by kernel_rfl
theorem zs298 : (Tryz.prog.info? 298).map (fun i => (i.zero, i.size)) = some (some (.nilFunc), 1) := by kernel_rfl
theorem in299 : (Tryz.prog.info? 299).map (fun i => (i.zero, i.size, i.bytes)) = some (some (.nilFunc), 1, 8) := by kernel_rfl
theorem sz299 : (Tryz.prog.info? 299).map (·.size) = some 1 := by kernel_rfl
theorem ze299 : (Tryz.prog.info? 299).map (·.zero) = some (some (.nilFunc)) := by kernel_rfl
theorem zs299 : (Tryz.prog.info? 299).map (fun i => (i.zero, i.size)) = some (some (.nilFunc), 1) := by kernel_rfl
theorem in300 : (Tryz.prog.info? 300).map (fun i => (i.zero, i.size, i.bytes)) = some (some (.nilFunc), 1, 8) := by kernel_rfl
theorem sz300 : (Tryz.prog.info? 300).map (·.size) = some 1 := by kernel_rfl
theorem ze300 : (Tryz.prog.info? 300).map (·.zero) = some (some (.nilFunc)) := by kernel_rfl
theorem zs300 : (Tryz.prog.info? 300).map (fun i => (i.zero, i.size)) = some (some (.nilFunc), 1) := by kernel_rfl
theorem in301 : (Tryz.prog.info? 301).map (fun i => (i.zero, i.size, i.bytes)) = some (some (.nilFunc), 1, 8) := by kernel_rfl
theorem sz301 : (Tryz.prog.info? 301).map (·.size) = some 1 := by kernel_rfl
theorem ze301 : (Tryz.prog.info? 301).map (·.zero) = some (some (.nilFunc)) := by kernel_rfl
theorem zs301 : (Tryz.prog.info? 301).map (fun i => (i.zero, i.size)) = some (some (.nilFunc), 1) := by kernel_rfl
theorem in302 : (Tryz.prog.info? 302).map (fun i => (i.zero, i.size, i.bytes)) = some (some (.nilFunc), 1, 8) := by kernel_rfl
theorem sz302 : (Tryz.prog.info? 302).map (·.size) = some 1 := by kernel_rfl
theorem ze302 : (Tryz.prog.info? 302).map (·.zero) = some (some (.nilFunc)) := by kernel_rfl
theorem zs302 : (Tryz.prog.info? 302).map (fun i => (i.zero, i.size)) = some (some (.nilFunc), 1) := by kernel_rfl
theorem in303 : (Tryz.prog.info? 303).map (fun i => (i.zero, i.size, i.bytes)) = some (some (.nilFunc), 1, 8) := by kernel_rfl
theorem sz303 : (Tryz.prog.info? 303).map (·.size) = some 1 := by kernel_rfl
theorem ze303 : (Tryz.prog.info? 303).map (·.zero) = some (some (.nilFunc)) := by kernel_rfl
theorem zs303 : (Tryz.prog.info? 303).map (fun i => (i.zero, i.size)) = some (some (.nilFunc), 1) := by kernel_rfl
theorem in304 : (Tryz.prog.info? 304).map (fun i => (i.zero, i.size, i.bytes)) = some (some (.nilFunc), 1, 8) := by kernel_rfl
theorem sz304 : (Tryz.prog.info? 304).map (·.size) = some 1 := by kernel_rfl
theorem ze304 : (Tryz.prog.info? 304).map (·.zero) = some (some (.nilFunc)) := by kernel_rfl
theorem zs304 : (Tryz.prog.info? 304).map (fun i => (i.zero, i.size)) = some (some (.nilFunc), 1) := by kernel_rfl
theorem in305 : (Tryz.prog.info? 305).map (fun i => (i.zero, i.size, i.bytes)) = some (some (.nilFunc), 1, 8) := by kernel_rfl
theorem sz305 : (Tryz.prog.info? 305).map (·.size) = some 1 := by kernel_rfl
theorem ze305 : (Tryz.prog.info? 305).map (·.zero) = some (some (.nilFunc)) := by kernel_rfl
theorem zs305 : (Tryz.prog.info? 305).map (fun i => (i.zero, i.size)) = some (some (.nilFunc), 1) := by kernel_rfl
theorem in306 : (Tryz.prog.info? 306).map (fun i => (i.zero, i.size, i.bytes)) = some (some (.int .u64 0), 1, 8) := by kernel_rfl
theorem sz306 : (Tryz.prog.info? 306).map (·.size) = some 1 := by kernel_rfl
theorem ze306 : (Tryz.prog.info? 306).map (·.zero) = some (some (.int .u64 0)) := by kernel_rfl
theorem zs306 : (Tryz.prog.info? 306).map (fun i => (i.zero, i.size)) = some (some (.int .u64 0), 1) := by kernel_rfl
theorem in307 : (Tryz.prog.info? 307).map (fun i => (i.zero, i.size, i.bytes)) = some (some (.nilFunc), 1, 8) := by kernel_rfl
theorem sz307 : (Tryz.prog.info? 307).map (·.size) = some 1 := by kernel_rfl
theorem ze307 : (Tryz.prog.info? 307).map (·.zero) = some (some (.nilFunc)) := by kernel_rfl
theorem zs307 : (Tryz.prog.info? 307).map (fun i => (i.zero, i.size)) = some (some (.nilFunc), 1) := by kernel_rfl
theorem in308 : (Tryz.prog.info? 308).map (fun i => (i.zero, i.size, i.bytes)) = some (some (.nilFunc), 1, 8) := by kernel_rfl
theorem sz308 : (Tryz.prog.info? 308).map (·.size) = some 1 := by kernel_rfl
theorem ze308 : (Tryz.prog.info? 308).map (·.zero) = some (some (.nilFunc)) := by kernel_rfl
theorem zs308 : (Tryz.prog.info? 308).map (fun i => (i.zero, i.size)) = some (some (.nilFunc), 1) := by kernel_rfl
theorem in309 : (Tryz.prog.info? 309).map (fun i => (i.zero, i.size, i.bytes)) = some (some (.nilFunc), 1, 8) := by kernel_rfl
theorem sz309 : (Tryz.prog.info? 309).map (·.size) = some 1 := by kernel_rfl
theorem ze309 : (Tryz.prog.info? 309).map (·.zero) = some (some (.nilFunc)) := by kernel_rfl
theorem zs309 : (Tryz.prog.info? 309).map (fun i => (i.zero, i.size)) = some (some (.nilFunc), 1) := by kernel_rfl
theorem in310 : (Tryz.prog.info? 310).map (fun i => (i.zero, i.size, i.bytes)) = some (some (.pointer none), 1, 8) := by kernel_rfl
theorem sz310 : (Tryz.prog.info? 310).map (·.size) = some 1 := by kernel_rfl
theorem ze310 : (Tryz.prog.info? 310).map (·.zero) = some (some (.pointer none)) := by kernel_rfl
theorem zs310 : (Tryz.prog.info? 310).map (fun i => (i.zero, i.size)) = some (some (.pointer none), 1) := by kernel_rfl
theorem in311 : (Tryz.prog.info? 311).map (fun i => (i.zero, i.size, i.bytes)) = some (some (.nilFunc), 1, 8) := by kernel_rfl
theorem sz311 : (Tryz.prog.info? 311).map (·.size) = some 1 := by kernel_rfl
theorem ze311 : (Tryz.prog.info? 311).map (·.zero) = some (some (.nilFunc)) := by kernel_rfl
theorem zs311 : (Tryz.prog.info? 311).map (fun i => (i.zero, i.size)) = some (some (.nilFunc), 1) := by kernel_rfl
theorem in312 : (Tryz.prog.info? 312).map (fun i => (i.zero, i.size, i.bytes)) = some (some (.nilFunc), 1, 8) := by kernel_rfl
theorem sz312 : (Tryz.prog.info? 312).map (·.size) = some 1 := by kernel_rfl
theorem ze312 : (Tryz.prog.info? 312).map (·.zero) = some (some (.nilFunc)) := by kernel_rfl
theorem zs312 : (Tryz.prog.info? 312).map (fun i => (i.zero, i.size)) = some (some (.nilFunc), 1) := by kernel_rfl
theorem in313 : (Tryz.prog.info? 313).map (fun i => (i.zero, i.size, i.bytes)) = some (some (.nilFunc), 1, 8) := by kernel_rfl
theorem sz313 : (Tryz.prog.info? 313).map (·.size) = some 1 := by kernel_rfl
theorem ze313 : (Tryz.prog.info? 313).map (·.zero) = some (some (.nilFunc)) := by kernel_rfl
theorem zs313 : (Tryz.prog.info? 313).map (fun i => (i.zero, i.size)) = some (some (.nilFunc), 1) := by kernel_rfl
theorem in314 : (Tryz.prog.info? 314).map (fun i => (i.zero, i.size, i.bytes)) = some (some (.nilFunc), 1, 8) := by kernel_rfl
theorem sz314 : (Tryz.prog.info? 314).map (·.size) = some 1 := by kernel_rfl
theorem ze314 : (Tryz.prog.info? 314).map (·.zero) = some (some (.nilFunc)) := by kernel_rfl
theorem zs314 : (Tryz.prog.info? 314).map (fun i => (i.zero, i.size)) = some (some (.nilFunc), 1) := by kernel_rfl
theorem in315 : (Tryz.prog.info? 315).map (fun i => (i.zero, i.size, i.bytes)) = some (some (.nilFunc), 1, 8) := by kernel_rfl
theorem sz315 : (Tryz.prog.info? 315).map (·.size) = some 1 := by kernel_rfl
theorem ze315 : (Tryz.prog.info? 315).map (·.zero) = some (some (.nilFunc)) := by kernel_rfl
theorem zs315 : (Tryz.prog.info? 315).map (fun i => (i.zero, i.size)) = some (some (.nilFunc), 1) := by kernel_rfl
theorem in316 : (Tryz.prog.info? 316).map (fun i => (i.zero, i.size, i.bytes)) = some (some (.pointer none), 1, 8) := by kernel_rfl
theorem sz316 : (Tryz.prog.info? 316).map (·.size) = some 1 := by kernel_rfl
theorem ze316 : (Tryz.prog.info? 316).map (·.zero) = some (some (.pointer none)) := by kernel_rfl
theorem zs316 : (Tryz.prog.info? 316).map (fun i => (i.zero, i.size)) = some (some (.pointer none), 1) := by kernel_rfl
theorem in317 : (Tryz.prog.info? 317).map (fun i => (i.zero, i.size, i.bytes)) = some (some (.nilFunc), 1, 8) := by kernel_rfl
theorem sz317 : (Tryz.prog.info? 317).map (·.size) = some 1 := by kernel_rfl
theorem ze317 : (Tryz.prog.info? 317).map (·.zero) = some (some (.nilFunc)) := by kernel_rfl
theorem zs317 : (Tryz.prog.info? 317).map (fun i => (i.zero, i.size)) = some (some (.nilFunc), 1) := by kernel_rfl
theorem in318 : (Tryz.prog.info? 318).map (fun i => (i.zero, i.size, i.bytes)) = some (some (.nilFunc), 1, 8) := by kernel_rfl
theorem sz318 : (Tryz.prog.info? 318).map (·.size) = some 1 := by kernel_rfl
theorem ze318 : (Tryz.prog.info? 318).map (·.zero) = some (some (.nilFunc)) := by kernel_rfl
theorem zs318 : (Tryz.prog.info? 318).map (fun i => (i.zero, i.size)) = some (some (.nilFunc), 1) := by kernel_rfl
theorem in319 : (Tryz.prog.info? 319).map (fun i => (i.zero, i.size, i.bytes)) = some (some (.nilFunc), 1, 8) := by kernel_rfl
theorem sz319 : (Tryz.prog.info? 319).map (·.size) = some 1 := by kernel_rfl
theorem ze319 : (Tryz.prog.info? 319).map (·.zero) = some (some (.nilFunc)) := by kernel_rfl
theorem zs319 : (Tryz.prog.info? 319).map (fun i => (i.zero, i.size)) = some (some (.nilFunc), 1) := by kernel_rfl
theorem in320 : (Tryz.prog.info? 320).map (fun i => (i.zero, i.size, i.bytes)) = some (some (.pointer none), 1, 8) := by kernel_rfl
theorem sz320 : (Tryz.prog.info? 320).map (·.size) = some 1 := by kernel_rfl
theorem ze320 : (Tryz.prog.info? 320).map (·.zero) = some (some (.pointer none)) := by kernel_rfl
theorem zs320 : (Tryz.prog.info? 320).map (fun i => (i.zero, i.size)) = some (some (.pointer none), 1) := by kernel_rfl
theorem in321 : (Tryz.prog.info? 321).map (fun i => (i.zero, i.size, i.bytes)) = some (some (.nilFunc), 1, 8) := by kernel_rfl
theorem sz321 : (Tryz.prog.info? 321).map (·.size) = some 1 := by kernel_rfl
theorem ze321 : (Tryz.prog.info? 321).map (·.zero) = some (some (.nilFunc)) := by kernel_rfl
theorem zs321 : (Tryz.prog.info? 321).map (fun i => (i.zero, i.size)) = some (some (.nilFunc), 1) := by kernel_rfl
theorem in322 : (Tryz.prog.info? 322).map (fun i => (i.zero, i.size, i.bytes)) = some (some (.agg #[.pointer none, .pointer none, .pointer none, .string ByteArray.empty]), 4, 40) := by kernel_rfl
theorem sz322 : (Tryz.prog.info? 322).map (·.size) = some 4 := by kernel_rfl
theorem ze322 : (Tryz.prog.info? 322).map (·.zero) = some (some (.agg #[.pointer none, .pointer none, .pointer none, .string ByteArray.empty])) := by kernel_rfl
theorem pl322 (w : World) : ((#[{ name := "_interface", type := 17, offset := 0, embedded := false, tag := "", pkgPath := "runtime", byteOffset := 0 }, { name := "concrete", type := 17, offset := 1, embedded := false, tag := "", pkgPath := "runtime", byteOffset := 8 }, { name := "asserted", type := 17, offset := 2, embedded := false, tag := "", pkgPath := "runtime", byteOffset := 16 }, { name := "missingMethod", type := 9, offset := 3, embedded := false, tag := "", pkgPath := "runtime", byteOffset := 24 }] : Array Field).mapM (m := Sem) fun f => do pure (f.offset, ← sizeOf f.type)).run Tryz.prog w = .ok #[(0, 1), (1, 1), (2, 1), (3, 1)] w := by kernel_rfl
theorem in323 : (Tryz.prog.info? 323).map (fun i => (i.zero, i.size, i.bytes)) = some (some (.agg #[.pointer none, .pointer none, .pointer none, .string ByteArray.empty]), 4, 40) := by kernel_rfl
theorem sz323 : (Tryz.prog.info? 323).map (·.size) = some 4 := by kernel_rfl
theorem ze323 : (Tryz.prog.info? 323).map (·.zero) = some (some (.agg #[.pointer none, .pointer none, .pointer none, .string ByteArray.empty])) := by kernel_rfl
theorem pl323 (w : World) : ((#[{ name := "_interface", type := 17, offset := 0, embedded := false, tag := "", pkgPath := "runtime", byteOffset := 0 }, { name := "concrete", type := 17, offset := 1, embedded := false, tag := "", pkgPath := "runtime", byteOffset := 8 }, { name := "asserted", type := 17, offset := 2, embedded := false, tag := "", pkgPath := "runtime", byteOffset := 16 }, { name := "missingMethod", type := 9, offset := 3, embedded := false, tag := "", pkgPath := "runtime", byteOffset := 24 }] : Array Field).mapM (m := Sem) fun f => do pure (f.offset, ← sizeOf f.type)).run Tryz.prog w = .ok #[(0, 1), (1, 1), (2, 1), (3, 1)] w := by kernel_rfl
theorem in327 : (Tryz.prog.info? 327).map (fun i => (i.zero, i.size, i.bytes)) = some (some (.int .u8 0), 1, 1) := by kernel_rfl
theorem sz327 : (Tryz.prog.info? 327).map (·.size) = some 1 := by kernel_rfl
theorem ze327 : (Tryz.prog.info? 327).map (·.zero) = some (some (.int .u8 0)) := by kernel_rfl
theorem zs327 : (Tryz.prog.info? 327).map (fun i => (i.zero, i.size)) = some (some (.int .u8 0), 1) := by kernel_rfl
theorem in328 : (Tryz.prog.info? 328).map (fun i => (i.zero, i.size, i.bytes)) = some (some (.int .u8 0), 1, 1) := by kernel_rfl
theorem sz328 : (Tryz.prog.info? 328).map (·.size) = some 1 := by kernel_rfl
theorem ze328 : (Tryz.prog.info? 328).map (·.zero) = some (some (.int .u8 0)) := by kernel_rfl
theorem zs328 : (Tryz.prog.info? 328).map (fun i => (i.zero, i.size)) = some (some (.int .u8 0), 1) := by kernel_rfl
theorem in329 : (Tryz.prog.info? 329).map (fun i => (i.zero, i.size, i.bytes)) = some (some (.nilFunc), 1, 8) := by kernel_rfl
theorem sz329 : (Tryz.prog.info? 329).map (·.size) = some 1 := by kernel_rfl
theorem ze329 : (Tryz.prog.info? 329).map (·.zero) = some (some (.nilFunc)) := by kernel_rfl
theorem zs329 : (Tryz.prog.info? 329).map (fun i => (i.zero, i.size)) = some (some (.nilFunc), 1) := by kernel_rfl
theorem in330 : (Tryz.prog.info? 330).map (fun i => (i.zero, i.size, i.bytes)) = some (some (.pointer none), 1, 8) := by kernel_rfl
theorem sz330 : (Tryz.prog.info? 330).map (·.size) = some 1 := by kernel_rfl
theorem ze330 : (Tryz.prog.info? 330).map (·.zero) = some (some (.pointer none)) := by kernel_rfl
theorem zs330 : (Tryz.prog.info? 330).map (fun i => (i.zero, i.size)) = some (some (.pointer none), 1) := by kernel_rfl
theorem in331 : (Tryz.prog.info? 331).map (fun i => (i.zero, i.size, i.bytes)) = some (some (.int .i32 0), 1, 4) := by kernel_rfl
theorem sz331 : (Tryz.prog.info? 331).map (·.size) = some 1 := by kernel_rfl
theorem ze331 : (Tryz.prog.info? 331).map (·.zero) = some (some (.int .i32 0)) := by kernel_rfl
theorem zs331 : (Tryz.prog.info? 331).map (fun i => (i.zero, i.size)) = some (some (.int .i32 0), 1) := by kernel_rfl
theorem in332 : (Tryz.prog.info? 332).map (fun i => (i.zero, i.size, i.bytes)) = some (some (.int .i32 0), 1, 4) := by kernel_rfl
theorem sz332 : (Tryz.prog.info? 332).map (·.size) = some 1 := by kernel_rfl
theorem ze332 : (Tryz.prog.info? 332).map (·.zero) = some (some (.int .i32 0)) := by kernel_rfl
theorem zs332 : (Tryz.prog.info? 332).map (fun i => (i.zero, i.size)) = some (some (.int .i32 0), 1) := by kernel_rfl
theorem in333 : (Tryz.prog.info? 333).map (fun i => (i.zero, i.size, i.bytes)) = some (some (.agg #[.int .u64 0, .int .u64 0, .int .u32 0, .int .u8 0, .int .u8 0, .int .u8 0, .int .u8 0, .nilFunc, .pointer none, .int .i32 0, .int .i32 0]), 11, 48) := by kernel_rfl
theorem sz333 : (Tryz.prog.info? 333).map (·.size) = some 11 := by kernel_rfl
theorem ze333 : (Tryz.prog.info? 333).map (·.zero) = some (some (.agg #[.int .u64 0, .int .u64 0, .int .u32 0, .int .u8 0, .int .u8 0, .int .u8 0, .int .u8 0, .nilFunc, .pointer none, .int .i32 0, .int .i32 0])) := by kernel_rfl
theorem pl333 (w : World) : ((#[{ name := "Size_", type := 12, offset := 0, embedded := false, tag := "", pkgPath := "", byteOffset := 0 }, { name := "PtrBytes", type := 12, offset := 1, embedded := false, tag := "", pkgPath := "", byteOffset := 8 }, { name := "Hash", type := 39, offset := 2, embedded := false, tag := "", pkgPath := "", byteOffset := 16 }, { name := "TFlag", type := 327, offset := 3, embedded := false, tag := "", pkgPath := "", byteOffset := 20 }, { name := "Align_", type := 5, offset := 4, embedded := false, tag := "", pkgPath := "", byteOffset := 21 }, { name := "FieldAlign_", type := 5, offset := 5, embedded := false, tag := "", pkgPath := "", byteOffset := 22 }, { name := "Kind_", type := 328, offset := 6, embedded := false, tag := "", pkgPath := "", byteOffset := 23 }, { name := "Equal", type := 329, offset := 7, embedded := false, tag := "", pkgPath := "", byteOffset := 24 }, { name := "GCData", type := 330, offset := 8, embedded := false, tag := "", pkgPath := "", byteOffset := 32 }, { name := "Str", type := 331, offset := 9, embedded := false, tag := "", pkgPath := "", byteOffset := 40 }, { name := "PtrToThis", type := 332, offset := 10, embedded := false, tag := "", pkgPath := "", byteOffset := 44 }] : Array Field).mapM (m := Sem) fun f => do pure (f.offset, ← sizeOf f.type)).run Tryz.prog w = .ok #[(0, 1), (1, 1), (2, 1), (3, 1), (4, 1), (5, 1), (6, 1), (7, 1), (8, 1), (9, 1), (10, 1)] w := by kernel_rfl
theorem in334 : (Tryz.prog.info? 334).map (fun i => (i.zero, i.size, i.bytes)) = some (some (.agg #[.int .u64 0, .int .u64 0, .int .u32 0, .int .u8 0, .int .u8 0, .int .u8 0, .int .u8 0, .nilFunc, .pointer none, .int .i32 0, .int .i32 0]), 11, 48) := by kernel_rfl
theorem sz334 : (Tryz.prog.info? 334).map (·.size) = some 11 := by kernel_rfl
theorem ze334 : (Tryz.prog.info? 334).map (·.zero) = some (some (.agg #[.int .u64 0, .int .u64 0, .int .u32 0, .int .u8 0, .int .u8 0, .int .u8 0, .int .u8 0, .nilFunc, .pointer none, .int .i32 0, .int .i32 0])) := by kernel_rfl
theorem pl334 (w : World) : ((#[{ name := "Size_", type := 12, offset := 0, embedded := false, tag := "", pkgPath := "", byteOffset := 0 }, { name := "PtrBytes", type := 12, offset := 1, embedded := false, tag := "", pkgPath := "", byteOffset := 8 }, { name := "Hash", type := 39, offset := 2, embedded := false, tag := "", pkgPath := "", byteOffset := 16 }, { name := "TFlag", type := 327, offset := 3, embedded := false, tag := "", pkgPath := "", byteOffset := 20 }, { name := "Align_", type := 5, offset := 4, embedded := false, tag := "", pkgPath := "", byteOffset := 21 }, { name := "FieldAlign_", type := 5, offset := 5, embedded := false, tag := "", pkgPath := "", byteOffset := 22 }, { name := "Kind_", type := 328, offset := 6, embedded := false, tag := "", pkgPath := "", byteOffset := 23 }, { name := "Equal", type := 329, offset := 7, embedded := false, tag := "", pkgPath := "", byteOffset := 24 }, { name := "GCData", type := 330, offset := 8, embedded := false, tag := "", pkgPath := "", byteOffset := 32 }, { name := "Str", type := 331, offset := 9, embedded := false, tag := "", pkgPath := "", byteOffset := 40 }, { name := "PtrToThis", type := 332, offset := 10, embedded := false, tag := "", pkgPath := "", byteOffset := 44 }] : Array Field).mapM (m := Sem) fun f => do pure (f.offset, ← sizeOf f.type)).run Tryz.prog w = .ok #[(0, 1), (1, 1), (2, 1), (3, 1), (4, 1), (5, 1), (6, 1), (7, 1), (8, 1), (9, 1), (10, 1)] w := by kernel_rfl
theorem in335 : (Tryz.prog.info? 335).map (fun i => (i.zero, i.size, i.bytes)) = some (some (.nilFunc), 1, 8) := by kernel_rfl
theorem sz335 : (Tryz.prog.info? 335).map (·.size) = some 1 := by kernel_rfl
theorem ze335 : (Tryz.prog.info? 335).map (·.zero) = some (some (.nilFunc)) := by kernel_rfl
theorem zs335 : (Tryz.prog.info? 335).map (fun i => (i.zero, i.size)) = some (some (.nilFunc), 1) := by kernel_rfl
theorem in336 : (Tryz.prog.info? 336).map (fun i => (i.zero, i.size, i.bytes)) = some (some (.agg #[.string ByteArray.empty]), 1, 16) := by kernel_rfl
theorem sz336 : (Tryz.prog.info? 336).map (·.size) = some 1 := by kernel_rfl
theorem ze336 : (Tryz.prog.info? 336).map (·.zero) = some (some (.agg #[.string ByteArray.empty])) := by kernel_rfl
theorem zs336 : (Tryz.prog.info? 336).map (fun i => (i.zero, i.size)) = some (some (.agg #[.string ByteArray.empty]), 1) := by kernel_rfl
theorem pl336 (w : World) : ((#[{ name := "s", type := 9, offset := 0, embedded := false, tag := "", pkgPath := "errors", byteOffset := 0 }] : Array Field).mapM (m := Sem) fun f => do pure (f.offset, ← sizeOf f.type)).run Tryz.prog w = .ok #[(0, 1)] w := by kernel_rfl
theorem in337 : (Tryz.prog.info? 337).map (fun i => (i.zero, i.size, i.bytes)) = some (some (.agg #[.string ByteArray.empty]), 1, 16) := by kernel_rfl
theorem sz337 : (Tryz.prog.info? 337).map (·.size) = some 1 := by kernel_rfl
theorem ze337 : (Tryz.prog.info? 337).map (·.zero) = some (some (.agg #[.string ByteArray.empty])) := by kernel_rfl
theorem zs337 : (Tryz.prog.info? 337).map (fun i => (i.zero, i.size)) = some (some (.agg #[.string ByteArray.empty]), 1) := by kernel_rfl
theorem pl337 (w : World) : ((#[{ name := "s", type := 9, offset := 0, embedded := false, tag := "", pkgPath := "errors", byteOffset := 0 }] : Array Field).mapM (m := Sem) fun f => do pure (f.offset, ← sizeOf f.type)).run Tryz.prog w = .ok #[(0, 1)] w := by kernel_rfl
theorem en2 (args : Array Value) (w : World) : (callFunc 2 args).run Tryz.prog w = .ok (.enter 2 args) w := by kernel_rfl
theorem en3 (args : Array Value) (w : World) : (callFunc 3 args).run Tryz.prog w = .ok (.enter 3 args) w := by kernel_rfl
theorem en4 (args : Array Value) (w : World) : (callFunc 4 args).run Tryz.prog w = .ok (.enter 4 args) w := by kernel_rfl
theorem en5 (args : Array Value) (w : World) : (callFunc 5 args).run Tryz.prog w = .ok (.enter 5 args) w := by kernel_rfl
theorem en6 (args : Array Value) (w : World) : (callFunc 6 args).run Tryz.prog w = .ok (.enter 6 args) w := by kernel_rfl
theorem en7 (args : Array Value) (w : World) : (callFunc 7 args).run Tryz.prog w = .ok (.enter 7 args) w := by kernel_rfl
theorem en8 (args : Array Value) (w : World) : (callFunc 8 args).run Tryz.prog w = .ok (.enter 8 args) w := by kernel_rfl
theorem en9 (args : Array Value) (w : World) : (callFunc 9 args).run Tryz.prog w = .ok (.enter 9 args) w := by kernel_rfl
theorem en10 (args : Array Value) (w : World) : (callFunc 10 args).run Tryz.prog w = .ok (.enter 10 args) w := by kernel_rfl
theorem en11 (args : Array Value) (w : World) : (callFunc 11 args).run Tryz.prog w = .ok (.enter 11 args) w := by kernel_rfl
theorem en12 (args : Array Value) (w : World) : (callFunc 12 args).run Tryz.prog w = .ok (.enter 12 args) w := by kernel_rfl
theorem en13 (args : Array Value) (w : World) : (callFunc 13 args).run Tryz.prog w = .ok (.enter 13 args) w := by kernel_rfl
theorem en14 (args : Array Value) (w : World) : (callFunc 14 args).run Tryz.prog w = .ok (.enter 14 args) w := by kernel_rfl
theorem en15 (args : Array Value) (w : World) : (callFunc 15 args).run Tryz.prog w = .ok (.enter 15 args) w := by kernel_rfl
theorem en16 (args : Array Value) (w : World) : (callFunc 16 args).run Tryz.prog w = .ok (.enter 16 args) w := by kernel_rfl
theorem en17 (args : Array Value) (w : World) : (callFunc 17 args).run Tryz.prog w = .ok (.enter 17 args) w := by kernel_rfl
theorem en18 (args : Array Value) (w : World) : (callFunc 18 args).run Tryz.prog w = .ok (.enter 18 args) w := by kernel_rfl
theorem en19 (args : Array Value) (w : World) : (callFunc 19 args).run Tryz.prog w = .ok (.enter 19 args) w := by kernel_rfl
theorem en20 (args : Array Value) (w : World) : (callFunc 20 args).run Tryz.prog w = .ok (.enter 20 args) w := by kernel_rfl
theorem en21 (args : Array Value) (w : World) : (callFunc 21 args).run Tryz.prog w = .ok (.enter 21 args) w := by kernel_rfl
theorem en22 (args : Array Value) (w : World) : (callFunc 22 args).run Tryz.prog w = .ok (.enter 22 args) w := by kernel_rfl
theorem en23 (args : Array Value) (w : World) : (callFunc 23 args).run Tryz.prog w = .ok (.enter 23 args) w := by kernel_rfl
theorem en24 (args : Array Value) (w : World) : (callFunc 24 args).run Tryz.prog w = .ok (.enter 24 args) w := by kernel_rfl
theorem en25 (args : Array Value) (w : World) : (callFunc 25 args).run Tryz.prog w = .ok (.enter 25 args) w := by kernel_rfl
theorem en26 (args : Array Value) (w : World) : (callFunc 26 args).run Tryz.prog w = .ok (.enter 26 args) w := by kernel_rfl
theorem en27 (args : Array Value) (w : World) : (callFunc 27 args).run Tryz.prog w = .ok (.enter 27 args) w := by kernel_rfl
theorem en28 (args : Array Value) (w : World) : (callFunc 28 args).run Tryz.prog w = .ok (.enter 28 args) w := by kernel_rfl
theorem en29 (args : Array Value) (w : World) : (callFunc 29 args).run Tryz.prog w = .ok (.enter 29 args) w := by kernel_rfl
theorem en30 (args : Array Value) (w : World) : (callFunc 30 args).run Tryz.prog w = .ok (.enter 30 args) w := by kernel_rfl
theorem en31 (args : Array Value) (w : World) : (callFunc 31 args).run Tryz.prog w = .ok (.enter 31 args) w := by kernel_rfl
theorem en32 (args : Array Value) (w : World) : (callFunc 32 args).run Tryz.prog w = .ok (.enter 32 args) w := by kernel_rfl
theorem en33 (args : Array Value) (w : World) : (callFunc 33 args).run Tryz.prog w = .ok (.enter 33 args) w := by kernel_rfl
theorem en34 (args : Array Value) (w : World) : (callFunc 34 args).run Tryz.prog w = .ok (.enter 34 args) w := by kernel_rfl
theorem en35 (args : Array Value) (w : World) : (callFunc 35 args).run Tryz.prog w = .ok (.enter 35 args) w := by kernel_rfl
theorem en36 (args : Array Value) (w : World) : (callFunc 36 args).run Tryz.prog w = .ok (.enter 36 args) w := by kernel_rfl
theorem en37 (args : Array Value) (w : World) : (callFunc 37 args).run Tryz.prog w = .ok (.enter 37 args) w := by kernel_rfl
theorem en38 (args : Array Value) (w : World) : (callFunc 38 args).run Tryz.prog w = .ok (.enter 38 args) w := by kernel_rfl
theorem en39 (args : Array Value) (w : World) : (callFunc 39 args).run Tryz.prog w = .ok (.enter 39 args) w := by kernel_rfl
theorem en40 (args : Array Value) (w : World) : (callFunc 40 args).run Tryz.prog w = .ok (.enter 40 args) w := by kernel_rfl
theorem en41 (args : Array Value) (w : World) : (callFunc 41 args).run Tryz.prog w = .ok (.enter 41 args) w := by kernel_rfl
theorem en42 (args : Array Value) (w : World) : (callFunc 42 args).run Tryz.prog w = .ok (.enter 42 args) w := by kernel_rfl
theorem en43 (args : Array Value) (w : World) : (callFunc 43 args).run Tryz.prog w = .ok (.enter 43 args) w := by kernel_rfl
theorem en44 (args : Array Value) (w : World) : (callFunc 44 args).run Tryz.prog w = .ok (.enter 44 args) w := by kernel_rfl
theorem en45 (args : Array Value) (w : World) : (callFunc 45 args).run Tryz.prog w = .ok (.enter 45 args) w := by kernel_rfl
theorem en46 (args : Array Value) (w : World) : (callFunc 46 args).run Tryz.prog w = .ok (.enter 46 args) w := by kernel_rfl
theorem en47 (args : Array Value) (w : World) : (callFunc 47 args).run Tryz.prog w = .ok (.enter 47 args) w := by kernel_rfl
theorem en48 (args : Array Value) (w : World) : (callFunc 48 args).run Tryz.prog w = .ok (.enter 48 args) w := by kernel_rfl
theorem en49 (args : Array Value) (w : World) : (callFunc 49 args).run Tryz.prog w = .ok (.enter 49 args) w := by kernel_rfl
theorem en50 (args : Array Value) (w : World) : (callFunc 50 args).run Tryz.prog w = .ok (.enter 50 args) w := by kernel_rfl
theorem en51 (args : Array Value) (w : World) : (callFunc 51 args).run Tryz.prog w = .ok (.enter 51 args) w := by kernel_rfl
theorem en52 (args : Array Value) (w : World) : (callFunc 52 args).run Tryz.prog w = .ok (.enter 52 args) w := by kernel_rfl
theorem en53 (args : Array Value) (w : World) : (callFunc 53 args).run Tryz.prog w = .ok (.enter 53 args) w := by kernel_rfl
theorem en54 (args : Array Value) (w : World) : (callFunc 54 args).run Tryz.prog w = .ok (.enter 54 args) w := by kernel_rfl
theorem en55 (args : Array Value) (w : World) : (callFunc 55 args).run Tryz.prog w = .ok (.enter 55 args) w := by kernel_rfl
theorem en56 (args : Array Value) (w : World) : (callFunc 56 args).run Tryz.prog w = .ok (.enter 56 args) w := by kernel_rfl
theorem en57 (args : Array Value) (w : World) : (callFunc 57 args).run Tryz.prog w = .ok (.enter 57 args) w := by kernel_rfl
theorem en58 (args : Array Value) (w : World) : (callFunc 58 args).run Tryz.prog w = .ok (.enter 58 args) w := by kernel_rfl
theorem en59 (args : Array Value) (w : World) : (callFunc 59 args).run Tryz.prog w = .ok (.enter 59 args) w := by kernel_rfl
theorem en60 (args : Array Value) (w : World) : (callFunc 60 args).run Tryz.prog w = .ok (.enter 60 args) w := by kernel_rfl
theorem en61 (args : Array Value) (w : World) : (callFunc 61 args).run Tryz.prog w = .ok (.enter 61 args) w := by kernel_rfl
theorem en62 (args : Array Value) (w : World) : (callFunc 62 args).run Tryz.prog w = .ok (.enter 62 args) w := by kernel_rfl
theorem en63 (args : Array Value) (w : World) : (callFunc 63 args).run Tryz.prog w = .ok (.enter 63 args) w := by kernel_rfl
theorem en64 (args : Array Value) (w : World) : (callFunc 64 args).run Tryz.prog w = .ok (.enter 64 args) w := by kernel_rfl
theorem en65 (args : Array Value) (w : World) : (callFunc 65 args).run Tryz.prog w = .ok (.enter 65 args) w := by kernel_rfl
theorem en66 (args : Array Value) (w : World) : (callFunc 66 args).run Tryz.prog w = .ok (.enter 66 args) w := by kernel_rfl
theorem en67 (args : Array Value) (w : World) : (callFunc 67 args).run Tryz.prog w = .ok (.enter 67 args) w := by kernel_rfl
theorem en68 (args : Array Value) (w : World) : (callFunc 68 args).run Tryz.prog w = .ok (.enter 68 args) w := by kernel_rfl
theorem en69 (args : Array Value) (w : World) : (callFunc 69 args).run Tryz.prog w = .ok (.enter 69 args) w := by kernel_rfl
theorem en70 (args : Array Value) (w : World) : (callFunc 70 args).run Tryz.prog w = .ok (.enter 70 args) w := by kernel_rfl
theorem en71 (args : Array Value) (w : World) : (callFunc 71 args).run Tryz.prog w = .ok (.enter 71 args) w := by kernel_rfl
theorem en72 (args : Array Value) (w : World) : (callFunc 72 args).run Tryz.prog w = .ok (.enter 72 args) w := by kernel_rfl
theorem en73 (args : Array Value) (w : World) : (callFunc 73 args).run Tryz.prog w = .ok (.enter 73 args) w := by kernel_rfl
theorem en74 (args : Array Value) (w : World) : (callFunc 74 args).run Tryz.prog w = .ok (.enter 74 args) w := by kernel_rfl
theorem en75 (args : Array Value) (w : World) : (callFunc 75 args).run Tryz.prog w = .ok (.enter 75 args) w := by kernel_rfl
theorem en76 (args : Array Value) (w : World) : (callFunc 76 args).run Tryz.prog w = .ok (.enter 76 args) w := by kernel_rfl
theorem en77 (args : Array Value) (w : World) : (callFunc 77 args).run Tryz.prog w = .ok (.enter 77 args) w := by kernel_rfl
theorem en78 (args : Array Value) (w : World) : (callFunc 78 args).run Tryz.prog w = .ok (.enter 78 args) w := by kernel_rfl
theorem en79 (args : Array Value) (w : World) : (callFunc 79 args).run Tryz.prog w = .ok (.enter 79 args) w := by kernel_rfl
theorem en80 (args : Array Value) (w : World) : (callFunc 80 args).run Tryz.prog w = .ok (.enter 80 args) w := by kernel_rfl
theorem en81 (args : Array Value) (w : World) : (callFunc 81 args).run Tryz.prog w = .ok (.enter 81 args) w := by kernel_rfl
theorem en82 (args : Array Value) (w : World) : (callFunc 82 args).run Tryz.prog w = .ok (.enter 82 args) w := by kernel_rfl
theorem en83 (args : Array Value) (w : World) : (callFunc 83 args).run Tryz.prog w = .ok (.enter 83 args) w := by kernel_rfl
theorem en84 (args : Array Value) (w : World) : (callFunc 84 args).run Tryz.prog w = .ok (.enter 84 args) w := by kernel_rfl
theorem en85 (args : Array Value) (w : World) : (callFunc 85 args).run Tryz.prog w = .ok (.enter 85 args) w := by kernel_rfl
theorem en86 (args : Array Value) (w : World) : (callFunc 86 args).run Tryz.prog w = .ok (.enter 86 args) w := by kernel_rfl
theorem en87 (args : Array Value) (w : World) : (callFunc 87 args).run Tryz.prog w = .ok (.enter 87 args) w := by kernel_rfl
theorem en88 (args : Array Value) (w : World) : (callFunc 88 args).run Tryz.prog w = .ok (.enter 88 args) w := by kernel_rfl
theorem en89 (args : Array Value) (w : World) : (callFunc 89 args).run Tryz.prog w = .ok (.enter 89 args) w := by kernel_rfl
theorem en90 (args : Array Value) (w : World) : (callFunc 90 args).run Tryz.prog w = .ok (.enter 90 args) w := by kernel_rfl
theorem en91 (args : Array Value) (w : World) : (callFunc 91 args).run Tryz.prog w = .ok (.enter 91 args) w := by kernel_rfl
theorem en92 (args : Array Value) (w : World) : (callFunc 92 args).run Tryz.prog w = .ok (.enter 92 args) w := by kernel_rfl
theorem en93 (args : Array Value) (w : World) : (callFunc 93 args).run Tryz.prog w = .ok (.enter 93 args) w := by kernel_rfl
theorem en94 (args : Array Value) (w : World) : (callFunc 94 args).run Tryz.prog w = .ok (.enter 94 args) w := by kernel_rfl
theorem en95 (args : Array Value) (w : World) : (callFunc 95 args).run Tryz.prog w = .ok (.enter 95 args) w := by kernel_rfl
theorem en96 (args : Array Value) (w : World) : (callFunc 96 args).run Tryz.prog w = .ok (.enter 96 args) w := by kernel_rfl
theorem en97 (args : Array Value) (w : World) : (callFunc 97 args).run Tryz.prog w = .ok (.enter 97 args) w := by kernel_rfl
theorem en98 (args : Array Value) (w : World) : (callFunc 98 args).run Tryz.prog w = .ok (.enter 98 args) w := by kernel_rfl
theorem en99 (args : Array Value) (w : World) : (callFunc 99 args).run Tryz.prog w = .ok (.enter 99 args) w := by kernel_rfl
theorem en100 (args : Array Value) (w : World) : (callFunc 100 args).run Tryz.prog w = .ok (.enter 100 args) w := by kernel_rfl
theorem en101 (args : Array Value) (w : World) : (callFunc 101 args).run Tryz.prog w = .ok (.enter 101 args) w := by kernel_rfl
theorem en102 (args : Array Value) (w : World) : (callFunc 102 args).run Tryz.prog w = .ok (.enter 102 args) w := by kernel_rfl
theorem en103 (args : Array Value) (w : World) : (callFunc 103 args).run Tryz.prog w = .ok (.enter 103 args) w := by kernel_rfl
theorem en104 (args : Array Value) (w : World) : (callFunc 104 args).run Tryz.prog w = .ok (.enter 104 args) w := by kernel_rfl
theorem en105 (args : Array Value) (w : World) : (callFunc 105 args).run Tryz.prog w = .ok (.enter 105 args) w := by kernel_rfl
theorem en106 (args : Array Value) (w : World) : (callFunc 106 args).run Tryz.prog w = .ok (.enter 106 args) w := by kernel_rfl
theorem en107 (args : Array Value) (w : World) : (callFunc 107 args).run Tryz.prog w = .ok (.enter 107 args) w := by kernel_rfl
theorem en108 (args : Array Value) (w : World) : (callFunc 108 args).run Tryz.prog w = .ok (.enter 108 args) w := by kernel_rfl
theorem en109 (args : Array Value) (w : World) : (callFunc 109 args).run Tryz.prog w = .ok (.enter 109 args) w := by kernel_rfl
theorem en110 (args : Array Value) (w : World) : (callFunc 110 args).run Tryz.prog w = .ok (.enter 110 args) w := by kernel_rfl
theorem en111 (args : Array Value) (w : World) : (callFunc 111 args).run Tryz.prog w = .ok (.enter 111 args) w := by kernel_rfl
theorem en112 (args : Array Value) (w : World) : (callFunc 112 args).run Tryz.prog w = .ok (.enter 112 args) w := by kernel_rfl
theorem en113 (args : Array Value) (w : World) : (callFunc 113 args).run Tryz.prog w = .ok (.enter 113 args) w := by kernel_rfl
theorem en114 (args : Array Value) (w : World) : (callFunc 114 args).run Tryz.prog w = .ok (.enter 114 args) w := by kernel_rfl
theorem en115 (args : Array Value) (w : World) : (callFunc 115 args).run Tryz.prog w = .ok (.enter 115 args) w := by kernel_rfl
theorem en116 (args : Array Value) (w : World) : (callFunc 116 args).run Tryz.prog w = .ok (.enter 116 args) w := by kernel_rfl
theorem en117 (args : Array Value) (w : World) : (callFunc 117 args).run Tryz.prog w = .ok (.enter 117 args) w := by kernel_rfl
theorem en118 (args : Array Value) (w : World) : (callFunc 118 args).run Tryz.prog w = .ok (.enter 118 args) w := by kernel_rfl
theorem en119 (args : Array Value) (w : World) : (callFunc 119 args).run Tryz.prog w = .ok (.enter 119 args) w := by kernel_rfl
theorem en120 (args : Array Value) (w : World) : (callFunc 120 args).run Tryz.prog w = .ok (.enter 120 args) w := by kernel_rfl
theorem en121 (args : Array Value) (w : World) : (callFunc 121 args).run Tryz.prog w = .ok (.enter 121 args) w := by kernel_rfl
theorem en122 (args : Array Value) (w : World) : (callFunc 122 args).run Tryz.prog w = .ok (.enter 122 args) w := by kernel_rfl
theorem en123 (args : Array Value) (w : World) : (callFunc 123 args).run Tryz.prog w = .ok (.enter 123 args) w := by kernel_rfl
theorem en125 (args : Array Value) (w : World) : (callFunc 125 args).run Tryz.prog w = .ok (.enter 125 args) w := by kernel_rfl
theorem en126 (args : Array Value) (w : World) : (callFunc 126 args).run Tryz.prog w = .ok (.enter 126 args) w := by kernel_rfl
theorem en127 (args : Array Value) (w : World) : (callFunc 127 args).run Tryz.prog w = .ok (.enter 127 args) w := by kernel_rfl
theorem en128 (args : Array Value) (w : World) : (callFunc 128 args).run Tryz.prog w = .ok (.enter 128 args) w := by kernel_rfl
theorem en129 (args : Array Value) (w : World) : (callFunc 129 args).run Tryz.prog w = .ok (.enter 129 args) w := by kernel_rfl
theorem en130 (args : Array Value) (w : World) : (callFunc 130 args).run Tryz.prog w = .ok (.enter 130 args) w := by kernel_rfl
theorem en131 (args : Array Value) (w : World) : (callFunc 131 args).run Tryz.prog w = .ok (.enter 131 args) w := by kernel_rfl
theorem en132 (args : Array Value) (w : World) : (callFunc 132 args).run Tryz.prog w = .ok (.enter 132 args) w := by kernel_rfl
theorem en133 (args : Array Value) (w : World) : (callFunc 133 args).run Tryz.prog w = .ok (.enter 133 args) w := by kernel_rfl
theorem en134 (args : Array Value) (w : World) : (callFunc 134 args).run Tryz.prog w = .ok (.enter 134 args) w := by kernel_rfl
theorem en135 (args : Array Value) (w : World) : (callFunc 135 args).run Tryz.prog w = .ok (.enter 135 args) w := by kernel_rfl
theorem en136 (args : Array Value) (w : World) : (callFunc 136 args).run Tryz.prog w = .ok (.enter 136 args) w := by kernel_rfl
theorem en137 (args : Array Value) (w : World) : (callFunc 137 args).run Tryz.prog w = .ok (.enter 137 args) w := by kernel_rfl
theorem en138 (args : Array Value) (w : World) : (callFunc 138 args).run Tryz.prog w = .ok (.enter 138 args) w := by kernel_rfl
theorem en139 (args : Array Value) (w : World) : (callFunc 139 args).run Tryz.prog w = .ok (.enter 139 args) w := by kernel_rfl
theorem en140 (args : Array Value) (w : World) : (callFunc 140 args).run Tryz.prog w = .ok (.enter 140 args) w := by kernel_rfl
theorem en141 (args : Array Value) (w : World) : (callFunc 141 args).run Tryz.prog w = .ok (.enter 141 args) w := by kernel_rfl
theorem en142 (args : Array Value) (w : World) : (callFunc 142 args).run Tryz.prog w = .ok (.enter 142 args) w := by kernel_rfl
theorem en143 (args : Array Value) (w : World) : (callFunc 143 args).run Tryz.prog w = .ok (.enter 143 args) w := by kernel_rfl
theorem en144 (args : Array Value) (w : World) : (callFunc 144 args).run Tryz.prog w = .ok (.enter 144 args) w := by kernel_rfl
theorem en145 (args : Array Value) (w : World) : (callFunc 145 args).run Tryz.prog w = .ok (.enter 145 args) w := by kernel_rfl
theorem en146 (args : Array Value) (w : World) : (callFunc 146 args).run Tryz.prog w = .ok (.enter 146 args) w := by kernel_rfl
theorem en147 (args : Array Value) (w : World) : (callFunc 147 args).run Tryz.prog w = .ok (.enter 147 args) w := by kernel_rfl
theorem en148 (args : Array Value) (w : World) : (callFunc 148 args).run Tryz.prog w = .ok (.enter 148 args) w := by kernel_rfl
theorem en149 (args : Array Value) (w : World) : (callFunc 149 args).run Tryz.prog w = .ok (.enter 149 args) w := by kernel_rfl
theorem en150 (args : Array Value) (w : World) : (callFunc 150 args).run Tryz.prog w = .ok (.enter 150 args) w := by kernel_rfl
theorem en151 (args : Array Value) (w : World) : (callFunc 151 args).run Tryz.prog w = .ok (.enter 151 args) w := by kernel_rfl
theorem en152 (args : Array Value) (w : World) : (callFunc 152 args).run Tryz.prog w = .ok (.enter 152 args) w := by kernel_rfl
theorem en153 (args : Array Value) (w : World) : (callFunc 153 args).run Tryz.prog w = .ok (.enter 153 args) w := by kernel_rfl
theorem en154 (args : Array Value) (w : World) : (callFunc 154 args).run Tryz.prog w = .ok (.enter 154 args) w := by kernel_rfl
theorem en155 (args : Array Value) (w : World) : (callFunc 155 args).run Tryz.prog w = .ok (.enter 155 args) w := by kernel_rfl
theorem en156 (args : Array Value) (w : World) : (callFunc 156 args).run Tryz.prog w = .ok (.enter 156 args) w := by kernel_rfl
theorem en157 (args : Array Value) (w : World) : (callFunc 157 args).run Tryz.prog w = .ok (.enter 157 args) w := by kernel_rfl
theorem en158 (args : Array Value) (w : World) : (callFunc 158 args).run Tryz.prog w = .ok (.enter 158 args) w := by kernel_rfl
theorem en159 (args : Array Value) (w : World) : (callFunc 159 args).run Tryz.prog w = .ok (.enter 159 args) w := by kernel_rfl
theorem en160 (args : Array Value) (w : World) : (callFunc 160 args).run Tryz.prog w = .ok (.enter 160 args) w := by kernel_rfl
theorem en161 (args : Array Value) (w : World) : (callFunc 161 args).run Tryz.prog w = .ok (.enter 161 args) w := by kernel_rfl
theorem en162 (args : Array Value) (w : World) : (callFunc 162 args).run Tryz.prog w = .ok (.enter 162 args) w := by kernel_rfl
theorem en163 (args : Array Value) (w : World) : (callFunc 163 args).run Tryz.prog w = .ok (.enter 163 args) w := by kernel_rfl
theorem en164 (args : Array Value) (w : World) : (callFunc 164 args).run Tryz.prog w = .ok (.enter 164 args) w := by kernel_rfl
theorem en165 (args : Array Value) (w : World) : (callFunc 165 args).run Tryz.prog w = .ok (.enter 165 args) w := by kernel_rfl
theorem en166 (args : Array Value) (w : World) : (callFunc 166 args).run Tryz.prog w = .ok (.enter 166 args) w := by kernel_rfl
theorem en167 (args : Array Value) (w : World) : (callFunc 167 args).run Tryz.prog w = .ok (.enter 167 args) w := by kernel_rfl
theorem en168 (args : Array Value) (w : World) : (callFunc 168 args).run Tryz.prog w = .ok (.enter 168 args) w := by kernel_rfl
theorem en169 (args : Array Value) (w : World) : (callFunc 169 args).run Tryz.prog w = .ok (.enter 169 args) w := by kernel_rfl
theorem en170 (args : Array Value) (w : World) : (callFunc 170 args).run Tryz.prog w = .ok (.enter 170 args) w := by kernel_rfl
theorem en171 (args : Array Value) (w : World) : (callFunc 171 args).run Tryz.prog w = .ok (.enter 171 args) w := by kernel_rfl
theorem en172 (args : Array Value) (w : World) : (callFunc 172 args).run Tryz.prog w = .ok (.enter 172 args) w := by kernel_rfl
theorem en173 (args : Array Value) (w : World) : (callFunc 173 args).run Tryz.prog w = .ok (.enter 173 args) w := by kernel_rfl
theorem en174 (args : Array Value) (w : World) : (callFunc 174 args).run Tryz.prog w = .ok (.enter 174 args) w := by kernel_rfl
theorem en175 (args : Array Value) (w : World) : (callFunc 175 args).run Tryz.prog w = .ok (.enter 175 args) w := by kernel_rfl
theorem en176 (args : Array Value) (w : World) : (callFunc 176 args).run Tryz.prog w = .ok (.enter 176 args) w := by kernel_rfl
theorem en177 (args : Array Value) (w : World) : (callFunc 177 args).run Tryz.prog w = .ok (.enter 177 args) w := by kernel_rfl
theorem en178 (args : Array Value) (w : World) : (callFunc 178 args).run Tryz.prog w = .ok (.enter 178 args) w := by kernel_rfl
theorem en179 (args : Array Value) (w : World) : (callFunc 179 args).run Tryz.prog w = .ok (.enter 179 args) w := by kernel_rfl
theorem en180 (args : Array Value) (w : World) : (callFunc 180 args).run Tryz.prog w = .ok (.enter 180 args) w := by kernel_rfl
theorem en181 (args : Array Value) (w : World) : (callFunc 181 args).run Tryz.prog w = .ok (.enter 181 args) w := by kernel_rfl
theorem en182 (args : Array Value) (w : World) : (callFunc 182 args).run Tryz.prog w = .ok (.enter 182 args) w := by kernel_rfl
theorem en183 (args : Array Value) (w : World) : (callFunc 183 args).run Tryz.prog w = .ok (.enter 183 args) w := by kernel_rfl
theorem en184 (args : Array Value) (w : World) : (callFunc 184 args).run Tryz.prog w = .ok (.enter 184 args) w := by kernel_rfl
theorem en185 (args : Array Value) (w : World) : (callFunc 185 args).run Tryz.prog w = .ok (.enter 185 args) w := by kernel_rfl
theorem en186 (args : Array Value) (w : World) : (callFunc 186 args).run Tryz.prog w = .ok (.enter 186 args) w := by kernel_rfl
theorem en187 (args : Array Value) (w : World) : (callFunc 187 args).run Tryz.prog w = .ok (.enter 187 args) w := by kernel_rfl
theorem en188 (args : Array Value) (w : World) : (callFunc 188 args).run Tryz.prog w = .ok (.enter 188 args) w := by kernel_rfl
theorem en189 (args : Array Value) (w : World) : (callFunc 189 args).run Tryz.prog w = .ok (.enter 189 args) w := by kernel_rfl
theorem en190 (args : Array Value) (w : World) : (callFunc 190 args).run Tryz.prog w = .ok (.enter 190 args) w := by kernel_rfl
theorem en191 (args : Array Value) (w : World) : (callFunc 191 args).run Tryz.prog w = .ok (.enter 191 args) w := by kernel_rfl
theorem en192 (args : Array Value) (w : World) : (callFunc 192 args).run Tryz.prog w = .ok (.enter 192 args) w := by kernel_rfl
theorem en193 (args : Array Value) (w : World) : (callFunc 193 args).run Tryz.prog w = .ok (.enter 193 args) w := by kernel_rfl
theorem en194 (args : Array Value) (w : World) : (callFunc 194 args).run Tryz.prog w = .ok (.enter 194 args) w := by kernel_rfl
theorem en195 (args : Array Value) (w : World) : (callFunc 195 args).run Tryz.prog w = .ok (.enter 195 args) w := by kernel_rfl
theorem en196 (args : Array Value) (w : World) : (callFunc 196 args).run Tryz.prog w = .ok (.enter 196 args) w := by kernel_rfl
theorem en197 (args : Array Value) (w : World) : (callFunc 197 args).run Tryz.prog w = .ok (.enter 197 args) w := by kernel_rfl
theorem en198 (args : Array Value) (w : World) : (callFunc 198 args).run Tryz.prog w = .ok (.enter 198 args) w := by kernel_rfl
theorem en199 (args : Array Value) (w : World) : (callFunc 199 args).run Tryz.prog w = .ok (.enter 199 args) w := by kernel_rfl
theorem en200 (args : Array Value) (w : World) : (callFunc 200 args).run Tryz.prog w = .ok (.enter 200 args) w := by kernel_rfl
theorem en201 (args : Array Value) (w : World) : (callFunc 201 args).run Tryz.prog w = .ok (.enter 201 args) w := by kernel_rfl
theorem en202 (args : Array Value) (w : World) : (callFunc 202 args).run Tryz.prog w = .ok (.enter 202 args) w := by kernel_rfl
theorem en203 (args : Array Value) (w : World) : (callFunc 203 args).run Tryz.prog w = .ok (.enter 203 args) w := by kernel_rfl
theorem en204 (args : Array Value) (w : World) : (callFunc 204 args).run Tryz.prog w = .ok (.enter 204 args) w := by kernel_rfl
theorem en205 (args : Array Value) (w : World) : (callFunc 205 args).run Tryz.prog w = .ok (.enter 205 args) w := by kernel_rfl
theorem en206 (args : Array Value) (w : World) : (callFunc 206 args).run Tryz.prog w = .ok (.enter 206 args) w := by kernel_rfl
theorem en207 (args : Array Value) (w : World) : (callFunc 207 args).run Tryz.prog w = .ok (.enter 207 args) w := by kernel_rfl
theorem en208 (args : Array Value) (w : World) : (callFunc 208 args).run Tryz.prog w = .ok (.enter 208 args) w := by kernel_rfl
theorem en209 (args : Array Value) (w : World) : (callFunc 209 args).run Tryz.prog w = .ok (.enter 209 args) w := by kernel_rfl
theorem en210 (args : Array Value) (w : World) : (callFunc 210 args).run Tryz.prog w = .ok (.enter 210 args) w := by kernel_rfl
theorem en211 (args : Array Value) (w : World) : (callFunc 211 args).run Tryz.prog w = .ok (.enter 211 args) w := by kernel_rfl
theorem en212 (args : Array Value) (w : World) : (callFunc 212 args).run Tryz.prog w = .ok (.enter 212 args) w := by kernel_rfl
theorem en213 (args : Array Value) (w : World) : (callFunc 213 args).run Tryz.prog w = .ok (.enter 213 args) w := by kernel_rfl
theorem en214 (args : Array Value) (w : World) : (callFunc 214 args).run Tryz.prog w = .ok (.enter 214 args) w := by kernel_rfl
theorem en215 (args : Array Value) (w : World) : (callFunc 215 args).run Tryz.prog w = .ok (.enter 215 args) w := by kernel_rfl
theorem en216 (args : Array Value) (w : World) : (callFunc 216 args).run Tryz.prog w = .ok (.enter 216 args) w := by kernel_rfl
theorem en217 (args : Array Value) (w : World) : (callFunc 217 args).run Tryz.prog w = .ok (.enter 217 args) w := by kernel_rfl
theorem en218 (args : Array Value) (w : World) : (callFunc 218 args).run Tryz.prog w = .ok (.enter 218 args) w := by kernel_rfl
theorem en219 (args : Array Value) (w : World) : (callFunc 219 args).run Tryz.prog w = .ok (.enter 219 args) w := by kernel_rfl
theorem en220 (args : Array Value) (w : World) : (callFunc 220 args).run Tryz.prog w = .ok (.enter 220 args) w := by kernel_rfl
theorem en221 (args : Array Value) (w : World) : (callFunc 221 args).run Tryz.prog w = .ok (.enter 221 args) w := by kernel_rfl
theorem en222 (args : Array Value) (w : World) : (callFunc 222 args).run Tryz.prog w = .ok (.enter 222 args) w := by kernel_rfl
theorem en223 (args : Array Value) (w : World) : (callFunc 223 args).run Tryz.prog w = .ok (.enter 223 args) w := by kernel_rfl
theorem en224 (args : Array Value) (w : World) : (callFunc 224 args).run Tryz.prog w = .ok (.enter 224 args) w := by kernel_rfl
theorem en225 (args : Array Value) (w : World) : (callFunc 225 args).run Tryz.prog w = .ok (.enter 225 args) w := by kernel_rfl
theorem en226 (args : Array Value) (w : World) : (callFunc 226 args).run Tryz.prog w = .ok (.enter 226 args) w := by kernel_rfl
theorem en227 (args : Array Value) (w : World) : (callFunc 227 args).run Tryz.prog w = .ok (.enter 227 args) w := by kernel_rfl
theorem en228 (args : Array Value) (w : World) : (callFunc 228 args).run Tryz.prog w = .ok (.enter 228 args) w := by kernel_rfl
theorem en229 (args : Array Value) (w : World) : (callFunc 229 args).run Tryz.prog w = .ok (.enter 229 args) w := by kernel_rfl
theorem en230 (args : Array Value) (w : World) : (callFunc 230 args).run Tryz.prog w = .ok (.enter 230 args) w := by kernel_rfl
theorem en231 (args : Array Value) (w : World) : (callFunc 231 args).run Tryz.prog w = .ok (.enter 231 args) w := by kernel_rfl
theorem en232 (args : Array Value) (w : World) : (callFunc 232 args).run Tryz.prog w = .ok (.enter 232 args) w := by kernel_rfl
theorem en233 (args : Array Value) (w : World) : (callFunc 233 args).run Tryz.prog w = .ok (.enter 233 args) w := by kernel_rfl
theorem en234 (args : Array Value) (w : World) : (callFunc 234 args).run Tryz.prog w = .ok (.enter 234 args) w := by kernel_rfl
theorem en235 (args : Array Value) (w : World) : (callFunc 235 args).run Tryz.prog w = .ok (.enter 235 args) w := by kernel_rfl
theorem en236 (args : Array Value) (w : World) : (callFunc 236 args).run Tryz.prog w = .ok (.enter 236 args) w := by kernel_rfl
theorem en237 (args : Array Value) (w : World) : (callFunc 237 args).run Tryz.prog w = .ok (.enter 237 args) w := by kernel_rfl
theorem en238 (args : Array Value) (w : World) : (callFunc 238 args).run Tryz.prog w = .ok (.enter 238 args) w := by kernel_rfl
theorem en239 (args : Array Value) (w : World) : (callFunc 239 args).run Tryz.prog w = .ok (.enter 239 args) w := by kernel_rfl
theorem en240 (args : Array Value) (w : World) : (callFunc 240 args).run Tryz.prog w = .ok (.enter 240 args) w := by kernel_rfl
theorem en241 (args : Array Value) (w : World) : (callFunc 241 args).run Tryz.prog w = .ok (.enter 241 args) w := by kernel_rfl
theorem en242 (args : Array Value) (w : World) : (callFunc 242 args).run Tryz.prog w = .ok (.enter 242 args) w := by kernel_rfl
theorem en243 (args : Array Value) (w : World) : (callFunc 243 args).run Tryz.prog w = .ok (.enter 243 args) w := by kernel_rfl
theorem en244 (args : Array Value) (w : World) : (callFunc 244 args).run Tryz.prog w = .ok (.enter 244 args) w := by kernel_rfl
theorem en245 (args : Array Value) (w : World) : (callFunc 245 args).run Tryz.prog w = .ok (.enter 245 args) w := by kernel_rfl
theorem en246 (args : Array Value) (w : World) : (callFunc 246 args).run Tryz.prog w = .ok (.enter 246 args) w := by kernel_rfl
theorem en247 (args : Array Value) (w : World) : (callFunc 247 args).run Tryz.prog w = .ok (.enter 247 args) w := by kernel_rfl
theorem en248 (args : Array Value) (w : World) : (callFunc 248 args).run Tryz.prog w = .ok (.enter 248 args) w := by kernel_rfl
theorem en249 (args : Array Value) (w : World) : (callFunc 249 args).run Tryz.prog w = .ok (.enter 249 args) w := by kernel_rfl
theorem en250 (args : Array Value) (w : World) : (callFunc 250 args).run Tryz.prog w = .ok (.enter 250 args) w := by kernel_rfl
theorem en251 (args : Array Value) (w : World) : (callFunc 251 args).run Tryz.prog w = .ok (.enter 251 args) w := by kernel_rfl
theorem en252 (args : Array Value) (w : World) : (callFunc 252 args).run Tryz.prog w = .ok (.enter 252 args) w := by kernel_rfl
theorem en253 (args : Array Value) (w : World) : (callFunc 253 args).run Tryz.prog w = .ok (.enter 253 args) w := by kernel_rfl
theorem en254 (args : Array Value) (w : World) : (callFunc 254 args).run Tryz.prog w = .ok (.enter 254 args) w := by kernel_rfl
theorem en255 (args : Array Value) (w : World) : (callFunc 255 args).run Tryz.prog w = .ok (.enter 255 args) w := by kernel_rfl
theorem en256 (args : Array Value) (w : World) : (callFunc 256 args).run Tryz.prog w = .ok (.enter 256 args) w := by kernel_rfl
theorem en257 (args : Array Value) (w : World) : (callFunc 257 args).run Tryz.prog w = .ok (.enter 257 args) w := by kernel_rfl
theorem en258 (args : Array Value) (w : World) : (callFunc 258 args).run Tryz.prog w = .ok (.enter 258 args) w := by kernel_rfl
theorem en259 (args : Array Value) (w : World) : (callFunc 259 args).run Tryz.prog w = .ok (.enter 259 args) w := by kernel_rfl
theorem en260 (args : Array Value) (w : World) : (callFunc 260 args).run Tryz.prog w = .ok (.enter 260 args) w := by kernel_rfl
theorem en261 (args : Array Value) (w : World) : (callFunc 261 args).run Tryz.prog w = .ok (.enter 261 args) w := by kernel_rfl
theorem en262 (args : Array Value) (w : World) : (callFunc 262 args).run Tryz.prog w = .ok (.enter 262 args) w := by kernel_rfl
theorem en263 (args : Array Value) (w : World) : (callFunc 263 args).run Tryz.prog w = .ok (.enter 263 args) w := by kernel_rfl
theorem en264 (args : Array Value) (w : World) : (callFunc 264 args).run Tryz.prog w = .ok (.enter 264 args) w := by kernel_rfl
theorem en265 (args : Array Value) (w : World) : (callFunc 265 args).run Tryz.prog w = .ok (.enter 265 args) w := by kernel_rfl
theorem en266 (args : Array Value) (w : World) : (callFunc 266 args).run Tryz.prog w = .ok (.enter 266 args) w := by kernel_rfl
theorem en267 (args : Array Value) (w : World) : (callFunc 267 args).run Tryz.prog w = .ok (.enter 267 args) w := by kernel_rfl
theorem en268 (args : Array Value) (w : World) : (callFunc 268 args).run Tryz.prog w = .ok (.enter 268 args) w := by kernel_rfl
theorem en269 (args : Array Value) (w : World) : (callFunc 269 args).run Tryz.prog w = .ok (.enter 269 args) w := by kernel_rfl
theorem en270 (args : Array Value) (w : World) : (callFunc 270 args).run Tryz.prog w = .ok (.enter 270 args) w := by kernel_rfl
theorem en271 (args : Array Value) (w : World) : (callFunc 271 args).run Tryz.prog w = .ok (.enter 271 args) w := by kernel_rfl
theorem en272 (args : Array Value) (w : World) : (callFunc 272 args).run Tryz.prog w = .ok (.enter 272 args) w := by kernel_rfl
theorem en273 (args : Array Value) (w : World) : (callFunc 273 args).run Tryz.prog w = .ok (.enter 273 args) w := by kernel_rfl
theorem en274 (args : Array Value) (w : World) : (callFunc 274 args).run Tryz.prog w = .ok (.enter 274 args) w := by kernel_rfl
theorem en275 (args : Array Value) (w : World) : (callFunc 275 args).run Tryz.prog w = .ok (.enter 275 args) w := by kernel_rfl
theorem en276 (args : Array Value) (w : World) : (callFunc 276 args).run Tryz.prog w = .ok (.enter 276 args) w := by kernel_rfl
theorem en277 (args : Array Value) (w : World) : (callFunc 277 args).run Tryz.prog w = .ok (.enter 277 args) w := by kernel_rfl
theorem en278 (args : Array Value) (w : World) : (callFunc 278 args).run Tryz.prog w = .ok (.enter 278 args) w := by kernel_rfl
theorem en279 (args : Array Value) (w : World) : (callFunc 279 args).run Tryz.prog w = .ok (.enter 279 args) w := by kernel_rfl
theorem en280 (args : Array Value) (w : World) : (callFunc 280 args).run Tryz.prog w = .ok (.enter 280 args) w := by kernel_rfl
theorem en281 (args : Array Value) (w : World) : (callFunc 281 args).run Tryz.prog w = .ok (.enter 281 args) w := by kernel_rfl
theorem en282 (args : Array Value) (w : World) : (callFunc 282 args).run Tryz.prog w = .ok (.enter 282 args) w := by kernel_rfl
theorem en283 (args : Array Value) (w : World) : (callFunc 283 args).run Tryz.prog w = .ok (.enter 283 args) w := by kernel_rfl
theorem en284 (args : Array Value) (w : World) : (callFunc 284 args).run Tryz.prog w = .ok (.enter 284 args) w := by kernel_rfl
theorem en285 (args : Array Value) (w : World) : (callFunc 285 args).run Tryz.prog w = .ok (.enter 285 args) w := by kernel_rfl
theorem en286 (args : Array Value) (w : World) : (callFunc 286 args).run Tryz.prog w = .ok (.enter 286 args) w := by kernel_rfl
theorem en287 (args : Array Value) (w : World) : (callFunc 287 args).run Tryz.prog w = .ok (.enter 287 args) w := by kernel_rfl
theorem en288 (args : Array Value) (w : World) : (callFunc 288 args).run Tryz.prog w = .ok (.enter 288 args) w := by kernel_rfl
theorem en289 (args : Array Value) (w : World) : (callFunc 289 args).run Tryz.prog w = .ok (.enter 289 args) w := by kernel_rfl
theorem en290 (args : Array Value) (w : World) : (callFunc 290 args).run Tryz.prog w = .ok (.enter 290 args) w := by kernel_rfl
theorem en291 (args : Array Value) (w : World) : (callFunc 291 args).run Tryz.prog w = .ok (.enter 291 args) w := by kernel_rfl
theorem en292 (args : Array Value) (w : World) : (callFunc 292 args).run Tryz.prog w = .ok (.enter 292 args) w := by kernel_rfl
theorem en293 (args : Array Value) (w : World) : (callFunc 293 args).run Tryz.prog w = .ok (.enter 293 args) w := by kernel_rfl
theorem en313 (args : Array Value) (w : World) : (callFunc 313 args).run Tryz.prog w = .ok (.enter 313 args) w := by kernel_rfl
theorem en335 (args : Array Value) (w : World) : (callFunc 335 args).run Tryz.prog w = .ok (.enter 335 args) w := by kernel_rfl
theorem mixes : Tryz.prog.follows .mixedOrders = true := by kernel_rfl
end Go.Proofs.YtkogkokmcmallaaGreatDoor
