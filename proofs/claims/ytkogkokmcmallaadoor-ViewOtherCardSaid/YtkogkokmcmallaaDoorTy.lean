/- The seat's closed facts: sizes and zeros of types, entries of functions. Written by a program (mkty.py). -/
import Derived.Test.YtkogkokmcmallaaDoorZb
import Derived.Test.YtkogkokmcmallaaDoorProg
namespace Go.Proofs.YtkogkokmcmallaaDoor
set_option linter.all false
open Go.RowKit
theorem in1 : (Tryd.prog.info? 1).map (fun i => (i.zero, i.size, i.bytes)) = some (some (.nilFunc), 1, 8) := by kernel_rfl
theorem sz1 : (Tryd.prog.info? 1).map (·.size) = some 1 := by kernel_rfl
theorem ze1 : (Tryd.prog.info? 1).map (·.zero) = some (some (.nilFunc)) := by kernel_rfl
theorem zs1 : (Tryd.prog.info? 1).map (fun i => (i.zero, i.size)) = some (some (.nilFunc), 1) := by kernel_rfl
theorem in2 : (Tryd.prog.info? 2).map (fun i => (i.zero, i.size, i.bytes)) = some (some (.int .i64 0), 1, 8) := by kernel_rfl
theorem sz2 : (Tryd.prog.info? 2).map (·.size) = some 1 := by kernel_rfl
theorem ze2 : (Tryd.prog.info? 2).map (·.zero) = some (some (.int .i64 0)) := by kernel_rfl
theorem zs2 : (Tryd.prog.info? 2).map (fun i => (i.zero, i.size)) = some (some (.int .i64 0), 1) := by kernel_rfl
theorem in3 : (Tryd.prog.info? 3).map (fun i => (i.zero, i.size, i.bytes)) = some (some (.int .i64 0), 1, 8) := by kernel_rfl
theorem sz3 : (Tryd.prog.info? 3).map (·.size) = some 1 := by kernel_rfl
theorem ze3 : (Tryd.prog.info? 3).map (·.zero) = some (some (.int .i64 0)) := by kernel_rfl
theorem zs3 : (Tryd.prog.info? 3).map (fun i => (i.zero, i.size)) = some (some (.int .i64 0), 1) := by kernel_rfl
theorem in4 : (Tryd.prog.info? 4).map (fun i => (i.zero, i.size, i.bytes)) = some (some (.bool false), 1, 1) := by kernel_rfl
theorem sz4 : (Tryd.prog.info? 4).map (·.size) = some 1 := by kernel_rfl
theorem ze4 : (Tryd.prog.info? 4).map (·.zero) = some (some (.bool false)) := by kernel_rfl
theorem zs4 : (Tryd.prog.info? 4).map (fun i => (i.zero, i.size)) = some (some (.bool false), 1) := by kernel_rfl
theorem in5 : (Tryd.prog.info? 5).map (fun i => (i.zero, i.size, i.bytes)) = some (some (.int .u8 0), 1, 1) := by kernel_rfl
theorem sz5 : (Tryd.prog.info? 5).map (·.size) = some 1 := by kernel_rfl
theorem ze5 : (Tryd.prog.info? 5).map (·.zero) = some (some (.int .u8 0)) := by kernel_rfl
theorem zs5 : (Tryd.prog.info? 5).map (fun i => (i.zero, i.size)) = some (some (.int .u8 0), 1) := by kernel_rfl
theorem in6 : (Tryd.prog.info? 6).map (fun i => (i.zero, i.size, i.bytes)) = some (some (.int .u8 0), 1, 1) := by kernel_rfl
theorem sz6 : (Tryd.prog.info? 6).map (·.size) = some 1 := by kernel_rfl
theorem ze6 : (Tryd.prog.info? 6).map (·.zero) = some (some (.int .u8 0)) := by kernel_rfl
theorem zs6 : (Tryd.prog.info? 6).map (fun i => (i.zero, i.size)) = some (some (.int .u8 0), 1) := by kernel_rfl
theorem in7 : (Tryd.prog.info? 7).map (fun i => (i.zero, i.size, i.bytes)) = some (some (.agg #[.int .i64 0, .int .i64 0, .bool false, .int .u8 0]), 4, 24) := by kernel_rfl
theorem sz7 : (Tryd.prog.info? 7).map (·.size) = some 4 := by kernel_rfl
theorem ze7 : (Tryd.prog.info? 7).map (·.zero) = some (some (.agg #[.int .i64 0, .int .i64 0, .bool false, .int .u8 0])) := by kernel_rfl
theorem pl7 (w : World) : ((#[{ name := "x", type := 2, offset := 0, embedded := false, tag := "", pkgPath := "runtime", byteOffset := 0 }, { name := "y", type := 3, offset := 1, embedded := false, tag := "", pkgPath := "runtime", byteOffset := 8 }, { name := "signed", type := 4, offset := 2, embedded := false, tag := "", pkgPath := "runtime", byteOffset := 16 }, { name := "code", type := 6, offset := 3, embedded := false, tag := "", pkgPath := "runtime", byteOffset := 17 }] : Array Field).mapM (m := Sem) fun f => do pure (f.offset, ← sizeOf f.type)).run Tryd.prog w = .ok #[(0, 1), (1, 1), (2, 1), (3, 1)] w := by kernel_rfl
theorem in8 : (Tryd.prog.info? 8).map (fun i => (i.zero, i.size, i.bytes)) = some (some (.agg #[.int .i64 0, .int .i64 0, .bool false, .int .u8 0]), 4, 24) := by kernel_rfl
theorem sz8 : (Tryd.prog.info? 8).map (·.size) = some 4 := by kernel_rfl
theorem ze8 : (Tryd.prog.info? 8).map (·.zero) = some (some (.agg #[.int .i64 0, .int .i64 0, .bool false, .int .u8 0])) := by kernel_rfl
theorem pl8 (w : World) : ((#[{ name := "x", type := 2, offset := 0, embedded := false, tag := "", pkgPath := "runtime", byteOffset := 0 }, { name := "y", type := 3, offset := 1, embedded := false, tag := "", pkgPath := "runtime", byteOffset := 8 }, { name := "signed", type := 4, offset := 2, embedded := false, tag := "", pkgPath := "runtime", byteOffset := 16 }, { name := "code", type := 6, offset := 3, embedded := false, tag := "", pkgPath := "runtime", byteOffset := 17 }] : Array Field).mapM (m := Sem) fun f => do pure (f.offset, ← sizeOf f.type)).run Tryd.prog w = .ok #[(0, 1), (1, 1), (2, 1), (3, 1)] w := by kernel_rfl
theorem in9 : (Tryd.prog.info? 9).map (fun i => (i.zero, i.size, i.bytes)) = some (some (.string ByteArray.empty), 1, 16) := by kernel_rfl
theorem sz9 : (Tryd.prog.info? 9).map (·.size) = some 1 := by kernel_rfl
theorem ze9 : (Tryd.prog.info? 9).map (·.zero) = some (some (.string ByteArray.empty)) := by kernel_rfl
theorem zs9 : (Tryd.prog.info? 9).map (fun i => (i.zero, i.size)) = some (some (.string ByteArray.empty), 1) := by kernel_rfl
theorem in10 : (Tryd.prog.info? 10).map (fun i => (i.zero, i.size, i.bytes)) = some (some (.string ByteArray.empty), 1, 16) := by kernel_rfl
theorem sz10 : (Tryd.prog.info? 10).map (·.size) = some 1 := by kernel_rfl
theorem ze10 : (Tryd.prog.info? 10).map (·.zero) = some (some (.string ByteArray.empty)) := by kernel_rfl
theorem zs10 : (Tryd.prog.info? 10).map (fun i => (i.zero, i.size)) = some (some (.string ByteArray.empty), 1) := by kernel_rfl
theorem in11 : (Tryd.prog.info? 11).map (fun i => (i.zero, i.size, i.bytes)) = some (some (.string ByteArray.empty), 1, 16) := by kernel_rfl
theorem sz11 : (Tryd.prog.info? 11).map (·.size) = some 1 := by kernel_rfl
theorem ze11 : (Tryd.prog.info? 11).map (·.zero) = some (some (.string ByteArray.empty)) := by kernel_rfl
theorem zs11 : (Tryd.prog.info? 11).map (fun i => (i.zero, i.size)) = some (some (.string ByteArray.empty), 1) := by kernel_rfl
theorem in12 : (Tryd.prog.info? 12).map (fun i => (i.zero, i.size, i.bytes)) = some (some (.int .u64 0), 1, 8) := by kernel_rfl
theorem sz12 : (Tryd.prog.info? 12).map (·.size) = some 1 := by kernel_rfl
theorem ze12 : (Tryd.prog.info? 12).map (·.zero) = some (some (.int .u64 0)) := by kernel_rfl
theorem zs12 : (Tryd.prog.info? 12).map (fun i => (i.zero, i.size)) = some (some (.int .u64 0), 1) := by kernel_rfl
theorem in13 : (Tryd.prog.info? 13).map (fun i => (i.zero, i.size, i.bytes)) = some (some (.agg #[.string ByteArray.empty, .int .u64 0]), 2, 24) := by kernel_rfl
theorem sz13 : (Tryd.prog.info? 13).map (·.size) = some 2 := by kernel_rfl
theorem ze13 : (Tryd.prog.info? 13).map (·.zero) = some (some (.agg #[.string ByteArray.empty, .int .u64 0])) := by kernel_rfl
theorem pl13 (w : World) : ((#[{ name := "msg", type := 9, offset := 0, embedded := false, tag := "", pkgPath := "runtime", byteOffset := 0 }, { name := "addr", type := 12, offset := 1, embedded := false, tag := "", pkgPath := "runtime", byteOffset := 16 }] : Array Field).mapM (m := Sem) fun f => do pure (f.offset, ← sizeOf f.type)).run Tryd.prog w = .ok #[(0, 1), (1, 1)] w := by kernel_rfl
theorem in14 : (Tryd.prog.info? 14).map (fun i => (i.zero, i.size, i.bytes)) = some (some (.agg #[.string ByteArray.empty, .int .u64 0]), 2, 24) := by kernel_rfl
theorem sz14 : (Tryd.prog.info? 14).map (·.size) = some 2 := by kernel_rfl
theorem ze14 : (Tryd.prog.info? 14).map (·.zero) = some (some (.agg #[.string ByteArray.empty, .int .u64 0])) := by kernel_rfl
theorem pl14 (w : World) : ((#[{ name := "msg", type := 9, offset := 0, embedded := false, tag := "", pkgPath := "runtime", byteOffset := 0 }, { name := "addr", type := 12, offset := 1, embedded := false, tag := "", pkgPath := "runtime", byteOffset := 16 }] : Array Field).mapM (m := Sem) fun f => do pure (f.offset, ← sizeOf f.type)).run Tryd.prog w = .ok #[(0, 1), (1, 1)] w := by kernel_rfl
theorem in15 : (Tryd.prog.info? 15).map (fun i => (i.zero, i.size, i.bytes)) = some (some (.pointer none), 1, 8) := by kernel_rfl
theorem sz15 : (Tryd.prog.info? 15).map (·.size) = some 1 := by kernel_rfl
theorem ze15 : (Tryd.prog.info? 15).map (·.zero) = some (some (.pointer none)) := by kernel_rfl
theorem zs15 : (Tryd.prog.info? 15).map (fun i => (i.zero, i.size)) = some (some (.pointer none), 1) := by kernel_rfl
theorem in16 : (Tryd.prog.info? 16).map (fun i => (i.zero, i.size, i.bytes)) = some (some (.pointer none), 1, 8) := by kernel_rfl
theorem sz16 : (Tryd.prog.info? 16).map (·.size) = some 1 := by kernel_rfl
theorem ze16 : (Tryd.prog.info? 16).map (·.zero) = some (some (.pointer none)) := by kernel_rfl
theorem zs16 : (Tryd.prog.info? 16).map (fun i => (i.zero, i.size)) = some (some (.pointer none), 1) := by kernel_rfl
theorem in17 : (Tryd.prog.info? 17).map (fun i => (i.zero, i.size, i.bytes)) = some (some (.pointer none), 1, 8) := by kernel_rfl
theorem sz17 : (Tryd.prog.info? 17).map (·.size) = some 1 := by kernel_rfl
theorem ze17 : (Tryd.prog.info? 17).map (·.zero) = some (some (.pointer none)) := by kernel_rfl
theorem zs17 : (Tryd.prog.info? 17).map (fun i => (i.zero, i.size)) = some (some (.pointer none), 1) := by kernel_rfl
theorem in18 : (Tryd.prog.info? 18).map (fun i => (i.zero, i.size, i.bytes)) = some (some (.agg #[.pointer none]), 1, 8) := by kernel_rfl
theorem sz18 : (Tryd.prog.info? 18).map (·.size) = some 1 := by kernel_rfl
theorem ze18 : (Tryd.prog.info? 18).map (·.zero) = some (some (.agg #[.pointer none])) := by kernel_rfl
theorem zs18 : (Tryd.prog.info? 18).map (fun i => (i.zero, i.size)) = some (some (.agg #[.pointer none]), 1) := by kernel_rfl
theorem pl18 (w : World) : ((#[{ name := "typ", type := 17, offset := 0, embedded := false, tag := "", pkgPath := "internal/runtime/maps", byteOffset := 0 }] : Array Field).mapM (m := Sem) fun f => do pure (f.offset, ← sizeOf f.type)).run Tryd.prog w = .ok #[(0, 1)] w := by kernel_rfl
theorem in19 : (Tryd.prog.info? 19).map (fun i => (i.zero, i.size, i.bytes)) = some (some (.agg #[.pointer none]), 1, 8) := by kernel_rfl
theorem sz19 : (Tryd.prog.info? 19).map (·.size) = some 1 := by kernel_rfl
theorem ze19 : (Tryd.prog.info? 19).map (·.zero) = some (some (.agg #[.pointer none])) := by kernel_rfl
theorem zs19 : (Tryd.prog.info? 19).map (fun i => (i.zero, i.size)) = some (some (.agg #[.pointer none]), 1) := by kernel_rfl
theorem pl19 (w : World) : ((#[{ name := "typ", type := 17, offset := 0, embedded := false, tag := "", pkgPath := "internal/runtime/maps", byteOffset := 0 }] : Array Field).mapM (m := Sem) fun f => do pure (f.offset, ← sizeOf f.type)).run Tryd.prog w = .ok #[(0, 1)] w := by kernel_rfl
theorem in20 : (Tryd.prog.info? 20).map (fun i => (i.zero, i.size, i.bytes)) = some (some (.nilIface), 1, 16) := by kernel_rfl
theorem sz20 : (Tryd.prog.info? 20).map (·.size) = some 1 := by kernel_rfl
theorem ze20 : (Tryd.prog.info? 20).map (·.zero) = some (some (.nilIface)) := by kernel_rfl
theorem zs20 : (Tryd.prog.info? 20).map (fun i => (i.zero, i.size)) = some (some (.nilIface), 1) := by kernel_rfl
theorem in21 : (Tryd.prog.info? 21).map (fun i => (i.zero, i.size, i.bytes)) = some (some (.int .i32 0), 1, 4) := by kernel_rfl
theorem sz21 : (Tryd.prog.info? 21).map (·.size) = some 1 := by kernel_rfl
theorem ze21 : (Tryd.prog.info? 21).map (·.zero) = some (some (.int .i32 0)) := by kernel_rfl
theorem zs21 : (Tryd.prog.info? 21).map (fun i => (i.zero, i.size)) = some (some (.int .i32 0), 1) := by kernel_rfl
theorem in22 : (Tryd.prog.info? 22).map (fun i => (i.zero, i.size, i.bytes)) = some (some (.slice none 0 0), 1, 24) := by kernel_rfl
theorem sz22 : (Tryd.prog.info? 22).map (·.size) = some 1 := by kernel_rfl
theorem ze22 : (Tryd.prog.info? 22).map (·.zero) = some (some (.slice none 0 0)) := by kernel_rfl
theorem zs22 : (Tryd.prog.info? 22).map (fun i => (i.zero, i.size)) = some (some (.slice none 0 0), 1) := by kernel_rfl
theorem in23 : (Tryd.prog.info? 23).map (fun i => (i.zero, i.size, i.bytes)) = some (some (.slice none 0 0), 1, 24) := by kernel_rfl
theorem sz23 : (Tryd.prog.info? 23).map (·.size) = some 1 := by kernel_rfl
theorem ze23 : (Tryd.prog.info? 23).map (·.zero) = some (some (.slice none 0 0)) := by kernel_rfl
theorem zs23 : (Tryd.prog.info? 23).map (fun i => (i.zero, i.size)) = some (some (.slice none 0 0), 1) := by kernel_rfl
theorem in24 : (Tryd.prog.info? 24).map (fun i => (i.zero, i.size, i.bytes)) = some (some (.nilFunc), 1, 8) := by kernel_rfl
theorem sz24 : (Tryd.prog.info? 24).map (·.size) = some 1 := by kernel_rfl
theorem ze24 : (Tryd.prog.info? 24).map (·.zero) = some (some (.nilFunc)) := by kernel_rfl
theorem zs24 : (Tryd.prog.info? 24).map (fun i => (i.zero, i.size)) = some (some (.nilFunc), 1) := by kernel_rfl
theorem in25 : (Tryd.prog.info? 25).map (fun i => (i.zero, i.size, i.bytes)) = some (some (.pointer none), 1, 8) := by kernel_rfl
theorem sz25 : (Tryd.prog.info? 25).map (·.size) = some 1 := by kernel_rfl
theorem ze25 : (Tryd.prog.info? 25).map (·.zero) = some (some (.pointer none)) := by kernel_rfl
theorem zs25 : (Tryd.prog.info? 25).map (fun i => (i.zero, i.size)) = some (some (.pointer none), 1) := by kernel_rfl
theorem in26 : (Tryd.prog.info? 26).map (fun i => (i.zero, i.size, i.bytes)) = some (some (.nilFunc), 1, 8) := by kernel_rfl
theorem sz26 : (Tryd.prog.info? 26).map (·.size) = some 1 := by kernel_rfl
theorem ze26 : (Tryd.prog.info? 26).map (·.zero) = some (some (.nilFunc)) := by kernel_rfl
theorem zs26 : (Tryd.prog.info? 26).map (fun i => (i.zero, i.size)) = some (some (.nilFunc), 1) := by kernel_rfl
theorem in27 : (Tryd.prog.info? 27).map (fun i => (i.zero, i.size, i.bytes)) = some (some (.nilFunc), 1, 8) := by kernel_rfl
theorem sz27 : (Tryd.prog.info? 27).map (·.size) = some 1 := by kernel_rfl
theorem ze27 : (Tryd.prog.info? 27).map (·.zero) = some (some (.nilFunc)) := by kernel_rfl
theorem zs27 : (Tryd.prog.info? 27).map (fun i => (i.zero, i.size)) = some (some (.nilFunc), 1) := by kernel_rfl
theorem in28 : (Tryd.prog.info? 28).map (fun i => (i.zero, i.size, i.bytes)) = some (some (.nilFunc), 1, 8) := by kernel_rfl
theorem sz28 : (Tryd.prog.info? 28).map (·.size) = some 1 := by kernel_rfl
theorem ze28 : (Tryd.prog.info? 28).map (·.zero) = some (some (.nilFunc)) := by kernel_rfl
theorem zs28 : (Tryd.prog.info? 28).map (fun i => (i.zero, i.size)) = some (some (.nilFunc), 1) := by kernel_rfl
theorem in29 : (Tryd.prog.info? 29).map (fun i => (i.zero, i.size, i.bytes)) = some (some (.nilFunc), 1, 8) := by kernel_rfl
theorem sz29 : (Tryd.prog.info? 29).map (·.size) = some 1 := by kernel_rfl
theorem ze29 : (Tryd.prog.info? 29).map (·.zero) = some (some (.nilFunc)) := by kernel_rfl
theorem zs29 : (Tryd.prog.info? 29).map (fun i => (i.zero, i.size)) = some (some (.nilFunc), 1) := by kernel_rfl
theorem in30 : (Tryd.prog.info? 30).map (fun i => (i.zero, i.size, i.bytes)) = some (some (.nilFunc), 1, 8) := by kernel_rfl
theorem sz30 : (Tryd.prog.info? 30).map (·.size) = some 1 := by kernel_rfl
theorem ze30 : (Tryd.prog.info? 30).map (·.zero) = some (some (.nilFunc)) := by kernel_rfl
theorem zs30 : (Tryd.prog.info? 30).map (fun i => (i.zero, i.size)) = some (some (.nilFunc), 1) := by kernel_rfl
theorem in31 : (Tryd.prog.info? 31).map (fun i => (i.zero, i.size, i.bytes)) = some (some (.nilFunc), 1, 8) := by kernel_rfl
theorem sz31 : (Tryd.prog.info? 31).map (·.size) = some 1 := by kernel_rfl
theorem ze31 : (Tryd.prog.info? 31).map (·.zero) = some (some (.nilFunc)) := by kernel_rfl
theorem zs31 : (Tryd.prog.info? 31).map (fun i => (i.zero, i.size)) = some (some (.nilFunc), 1) := by kernel_rfl
theorem in32 : (Tryd.prog.info? 32).map (fun i => (i.zero, i.size, i.bytes)) = some (some (.nilFunc), 1, 8) := by kernel_rfl
theorem sz32 : (Tryd.prog.info? 32).map (·.size) = some 1 := by kernel_rfl
theorem ze32 : (Tryd.prog.info? 32).map (·.zero) = some (some (.nilFunc)) := by kernel_rfl
theorem zs32 : (Tryd.prog.info? 32).map (fun i => (i.zero, i.size)) = some (some (.nilFunc), 1) := by kernel_rfl
theorem in33 : (Tryd.prog.info? 33).map (fun i => (i.zero, i.size, i.bytes)) = some (some (.int .u32 0), 1, 4) := by kernel_rfl
theorem sz33 : (Tryd.prog.info? 33).map (·.size) = some 1 := by kernel_rfl
theorem ze33 : (Tryd.prog.info? 33).map (·.zero) = some (some (.int .u32 0)) := by kernel_rfl
theorem zs33 : (Tryd.prog.info? 33).map (fun i => (i.zero, i.size)) = some (some (.int .u32 0), 1) := by kernel_rfl
theorem in34 : (Tryd.prog.info? 34).map (fun i => (i.zero, i.size, i.bytes)) = some (some (.agg #[.string ByteArray.empty, .int .i64 0, .int .u32 0]), 3, 32) := by kernel_rfl
theorem sz34 : (Tryd.prog.info? 34).map (·.size) = some 3 := by kernel_rfl
theorem ze34 : (Tryd.prog.info? 34).map (·.zero) = some (some (.agg #[.string ByteArray.empty, .int .i64 0, .int .u32 0])) := by kernel_rfl
theorem pl34 (w : World) : ((#[{ name := "Name", type := 9, offset := 0, embedded := false, tag := "", pkgPath := "", byteOffset := 0 }, { name := "Len", type := 3, offset := 1, embedded := false, tag := "", pkgPath := "", byteOffset := 16 }, { name := "Sum", type := 33, offset := 2, embedded := false, tag := "", pkgPath := "", byteOffset := 24 }] : Array Field).mapM (m := Sem) fun f => do pure (f.offset, ← sizeOf f.type)).run Tryd.prog w = .ok #[(0, 1), (1, 1), (2, 1)] w := by kernel_rfl
theorem in35 : (Tryd.prog.info? 35).map (fun i => (i.zero, i.size, i.bytes)) = some (some (.agg #[.string ByteArray.empty, .int .i64 0, .int .u32 0]), 3, 32) := by kernel_rfl
theorem sz35 : (Tryd.prog.info? 35).map (·.size) = some 3 := by kernel_rfl
theorem ze35 : (Tryd.prog.info? 35).map (·.zero) = some (some (.agg #[.string ByteArray.empty, .int .i64 0, .int .u32 0])) := by kernel_rfl
theorem pl35 (w : World) : ((#[{ name := "Name", type := 9, offset := 0, embedded := false, tag := "", pkgPath := "", byteOffset := 0 }, { name := "Len", type := 3, offset := 1, embedded := false, tag := "", pkgPath := "", byteOffset := 16 }, { name := "Sum", type := 33, offset := 2, embedded := false, tag := "", pkgPath := "", byteOffset := 24 }] : Array Field).mapM (m := Sem) fun f => do pure (f.offset, ← sizeOf f.type)).run Tryd.prog w = .ok #[(0, 1), (1, 1), (2, 1)] w := by kernel_rfl
theorem in36 : (Tryd.prog.info? 36).map (fun i => (i.zero, i.size, i.bytes)) = some (some (.slice none 0 0), 1, 24) := by kernel_rfl
theorem sz36 : (Tryd.prog.info? 36).map (·.size) = some 1 := by kernel_rfl
theorem ze36 : (Tryd.prog.info? 36).map (·.zero) = some (some (.slice none 0 0)) := by kernel_rfl
theorem zs36 : (Tryd.prog.info? 36).map (fun i => (i.zero, i.size)) = some (some (.slice none 0 0), 1) := by kernel_rfl
theorem in37 : (Tryd.prog.info? 37).map (fun i => (i.zero, i.size, i.bytes)) = some (some (.slice none 0 0), 1, 24) := by kernel_rfl
theorem sz37 : (Tryd.prog.info? 37).map (·.size) = some 1 := by kernel_rfl
theorem ze37 : (Tryd.prog.info? 37).map (·.zero) = some (some (.slice none 0 0)) := by kernel_rfl
theorem zs37 : (Tryd.prog.info? 37).map (fun i => (i.zero, i.size)) = some (some (.slice none 0 0), 1) := by kernel_rfl
theorem in38 : (Tryd.prog.info? 38).map (fun i => (i.zero, i.size, i.bytes)) = some (some (.agg #[.int .i64 0, .int .i64 0, .int .i64 0, .int .i64 0, .slice none 0 0, .slice none 0 0]), 6, 80) := by kernel_rfl
theorem sz38 : (Tryd.prog.info? 38).map (·.size) = some 6 := by kernel_rfl
theorem ze38 : (Tryd.prog.info? 38).map (·.zero) = some (some (.agg #[.int .i64 0, .int .i64 0, .int .i64 0, .int .i64 0, .slice none 0 0, .slice none 0 0])) := by kernel_rfl
theorem pl38 (w : World) : ((#[{ name := "ID", type := 3, offset := 0, embedded := false, tag := "", pkgPath := "", byteOffset := 0 }, { name := "Base", type := 2, offset := 1, embedded := false, tag := "", pkgPath := "", byteOffset := 8 }, { name := "End", type := 2, offset := 2, embedded := false, tag := "", pkgPath := "", byteOffset := 16 }, { name := "Time", type := 2, offset := 3, embedded := false, tag := "", pkgPath := "", byteOffset := 24 }, { name := "Epochs", type := 36, offset := 4, embedded := false, tag := "", pkgPath := "", byteOffset := 32 }, { name := "Objects", type := 37, offset := 5, embedded := false, tag := "", pkgPath := "", byteOffset := 56 }] : Array Field).mapM (m := Sem) fun f => do pure (f.offset, ← sizeOf f.type)).run Tryd.prog w = .ok #[(0, 1), (1, 1), (2, 1), (3, 1), (4, 1), (5, 1)] w := by kernel_rfl
theorem in39 : (Tryd.prog.info? 39).map (fun i => (i.zero, i.size, i.bytes)) = some (some (.agg #[.int .i64 0, .int .i64 0, .int .i64 0, .int .i64 0, .slice none 0 0, .slice none 0 0]), 6, 80) := by kernel_rfl
theorem sz39 : (Tryd.prog.info? 39).map (·.size) = some 6 := by kernel_rfl
theorem ze39 : (Tryd.prog.info? 39).map (·.zero) = some (some (.agg #[.int .i64 0, .int .i64 0, .int .i64 0, .int .i64 0, .slice none 0 0, .slice none 0 0])) := by kernel_rfl
theorem pl39 (w : World) : ((#[{ name := "ID", type := 3, offset := 0, embedded := false, tag := "", pkgPath := "", byteOffset := 0 }, { name := "Base", type := 2, offset := 1, embedded := false, tag := "", pkgPath := "", byteOffset := 8 }, { name := "End", type := 2, offset := 2, embedded := false, tag := "", pkgPath := "", byteOffset := 16 }, { name := "Time", type := 2, offset := 3, embedded := false, tag := "", pkgPath := "", byteOffset := 24 }, { name := "Epochs", type := 36, offset := 4, embedded := false, tag := "", pkgPath := "", byteOffset := 32 }, { name := "Objects", type := 37, offset := 5, embedded := false, tag := "", pkgPath := "", byteOffset := 56 }] : Array Field).mapM (m := Sem) fun f => do pure (f.offset, ← sizeOf f.type)).run Tryd.prog w = .ok #[(0, 1), (1, 1), (2, 1), (3, 1), (4, 1), (5, 1)] w := by kernel_rfl
theorem in40 : (Tryd.prog.info? 40).map (fun i => (i.zero, i.size, i.bytes)) = some (some (.nilFunc), 1, 8) := by kernel_rfl
theorem sz40 : (Tryd.prog.info? 40).map (·.size) = some 1 := by kernel_rfl
theorem ze40 : (Tryd.prog.info? 40).map (·.zero) = some (some (.nilFunc)) := by kernel_rfl
theorem zs40 : (Tryd.prog.info? 40).map (fun i => (i.zero, i.size)) = some (some (.nilFunc), 1) := by kernel_rfl
theorem in41 : (Tryd.prog.info? 41).map (fun i => (i.zero, i.size, i.bytes)) = some (some (.nilFunc), 1, 8) := by kernel_rfl
theorem sz41 : (Tryd.prog.info? 41).map (·.size) = some 1 := by kernel_rfl
theorem ze41 : (Tryd.prog.info? 41).map (·.zero) = some (some (.nilFunc)) := by kernel_rfl
theorem zs41 : (Tryd.prog.info? 41).map (fun i => (i.zero, i.size)) = some (some (.nilFunc), 1) := by kernel_rfl
theorem in42 : (Tryd.prog.info? 42).map (fun i => (i.zero, i.size, i.bytes)) = some (some (.nilFunc), 1, 8) := by kernel_rfl
theorem sz42 : (Tryd.prog.info? 42).map (·.size) = some 1 := by kernel_rfl
theorem ze42 : (Tryd.prog.info? 42).map (·.zero) = some (some (.nilFunc)) := by kernel_rfl
theorem zs42 : (Tryd.prog.info? 42).map (fun i => (i.zero, i.size)) = some (some (.nilFunc), 1) := by kernel_rfl
theorem in43 : (Tryd.prog.info? 43).map (fun i => (i.zero, i.size, i.bytes)) = some (some (.nilFunc), 1, 8) := by kernel_rfl
theorem sz43 : (Tryd.prog.info? 43).map (·.size) = some 1 := by kernel_rfl
theorem ze43 : (Tryd.prog.info? 43).map (·.zero) = some (some (.nilFunc)) := by kernel_rfl
theorem zs43 : (Tryd.prog.info? 43).map (fun i => (i.zero, i.size)) = some (some (.nilFunc), 1) := by kernel_rfl
theorem in44 : (Tryd.prog.info? 44).map (fun i => (i.zero, i.size, i.bytes)) = some (some (.nilFunc), 1, 8) := by kernel_rfl
theorem sz44 : (Tryd.prog.info? 44).map (·.size) = some 1 := by kernel_rfl
theorem ze44 : (Tryd.prog.info? 44).map (·.zero) = some (some (.nilFunc)) := by kernel_rfl
theorem zs44 : (Tryd.prog.info? 44).map (fun i => (i.zero, i.size)) = some (some (.nilFunc), 1) := by kernel_rfl
theorem in45 : (Tryd.prog.info? 45).map (fun i => (i.zero, i.size, i.bytes)) = some (some (.nilFunc), 1, 8) := by kernel_rfl
theorem sz45 : (Tryd.prog.info? 45).map (·.size) = some 1 := by kernel_rfl
theorem ze45 : (Tryd.prog.info? 45).map (·.zero) = some (some (.nilFunc)) := by kernel_rfl
theorem zs45 : (Tryd.prog.info? 45).map (fun i => (i.zero, i.size)) = some (some (.nilFunc), 1) := by kernel_rfl
theorem in46 : (Tryd.prog.info? 46).map (fun i => (i.zero, i.size, i.bytes)) = some (some (.nilFunc), 1, 8) := by kernel_rfl
theorem sz46 : (Tryd.prog.info? 46).map (·.size) = some 1 := by kernel_rfl
theorem ze46 : (Tryd.prog.info? 46).map (·.zero) = some (some (.nilFunc)) := by kernel_rfl
theorem zs46 : (Tryd.prog.info? 46).map (fun i => (i.zero, i.size)) = some (some (.nilFunc), 1) := by kernel_rfl
theorem in47 : (Tryd.prog.info? 47).map (fun i => (i.zero, i.size, i.bytes)) = some (some (.nilFunc), 1, 8) := by kernel_rfl
theorem sz47 : (Tryd.prog.info? 47).map (·.size) = some 1 := by kernel_rfl
theorem ze47 : (Tryd.prog.info? 47).map (·.zero) = some (some (.nilFunc)) := by kernel_rfl
theorem zs47 : (Tryd.prog.info? 47).map (fun i => (i.zero, i.size)) = some (some (.nilFunc), 1) := by kernel_rfl
theorem in48 : (Tryd.prog.info? 48).map (fun i => (i.zero, i.size, i.bytes)) = some (some (.nilIface), 1, 16) := by kernel_rfl
theorem sz48 : (Tryd.prog.info? 48).map (·.size) = some 1 := by kernel_rfl
theorem ze48 : (Tryd.prog.info? 48).map (·.zero) = some (some (.nilIface)) := by kernel_rfl
theorem zs48 : (Tryd.prog.info? 48).map (fun i => (i.zero, i.size)) = some (some (.nilIface), 1) := by kernel_rfl
theorem in49 : (Tryd.prog.info? 49).map (fun i => (i.zero, i.size, i.bytes)) = some (some (.nilIface), 1, 16) := by kernel_rfl
theorem sz49 : (Tryd.prog.info? 49).map (·.size) = some 1 := by kernel_rfl
theorem ze49 : (Tryd.prog.info? 49).map (·.zero) = some (some (.nilIface)) := by kernel_rfl
theorem zs49 : (Tryd.prog.info? 49).map (fun i => (i.zero, i.size)) = some (some (.nilIface), 1) := by kernel_rfl
theorem in50 : (Tryd.prog.info? 50).map (fun i => (i.zero, i.size, i.bytes)) = some (some (.nilFunc), 1, 8) := by kernel_rfl
theorem sz50 : (Tryd.prog.info? 50).map (·.size) = some 1 := by kernel_rfl
theorem ze50 : (Tryd.prog.info? 50).map (·.zero) = some (some (.nilFunc)) := by kernel_rfl
theorem zs50 : (Tryd.prog.info? 50).map (fun i => (i.zero, i.size)) = some (some (.nilFunc), 1) := by kernel_rfl
theorem in51 : (Tryd.prog.info? 51).map (fun i => (i.zero, i.size, i.bytes)) = some (some (.agg #[.int .i64 0, .int .i64 0, .int .i64 0, .int .i64 0, .int .i64 0, .slice none 0 0, .slice none 0 0]), 7, 88) := by kernel_rfl
theorem sz51 : (Tryd.prog.info? 51).map (·.size) = some 7 := by kernel_rfl
theorem ze51 : (Tryd.prog.info? 51).map (·.zero) = some (some (.agg #[.int .i64 0, .int .i64 0, .int .i64 0, .int .i64 0, .int .i64 0, .slice none 0 0, .slice none 0 0])) := by kernel_rfl
theorem pl51 (w : World) : ((#[{ name := "Kind", type := 3, offset := 0, embedded := false, tag := "", pkgPath := "", byteOffset := 0 }, { name := "M", type := 39, offset := 1, embedded := false, tag := "", pkgPath := "", byteOffset := 8 }] : Array Field).mapM (m := Sem) fun f => do pure (f.offset, ← sizeOf f.type)).run Tryd.prog w = .ok #[(0, 1), (1, 6)] w := by kernel_rfl
theorem in52 : (Tryd.prog.info? 52).map (fun i => (i.zero, i.size, i.bytes)) = some (some (.agg #[.int .i64 0, .int .i64 0, .int .i64 0, .int .i64 0, .int .i64 0, .slice none 0 0, .slice none 0 0]), 7, 88) := by kernel_rfl
theorem sz52 : (Tryd.prog.info? 52).map (·.size) = some 7 := by kernel_rfl
theorem ze52 : (Tryd.prog.info? 52).map (·.zero) = some (some (.agg #[.int .i64 0, .int .i64 0, .int .i64 0, .int .i64 0, .int .i64 0, .slice none 0 0, .slice none 0 0])) := by kernel_rfl
theorem pl52 (w : World) : ((#[{ name := "Kind", type := 3, offset := 0, embedded := false, tag := "", pkgPath := "", byteOffset := 0 }, { name := "M", type := 39, offset := 1, embedded := false, tag := "", pkgPath := "", byteOffset := 8 }] : Array Field).mapM (m := Sem) fun f => do pure (f.offset, ← sizeOf f.type)).run Tryd.prog w = .ok #[(0, 1), (1, 6)] w := by kernel_rfl
theorem in53 : (Tryd.prog.info? 53).map (fun i => (i.zero, i.size, i.bytes)) = some (some (.nilFunc), 1, 8) := by kernel_rfl
theorem sz53 : (Tryd.prog.info? 53).map (·.size) = some 1 := by kernel_rfl
theorem ze53 : (Tryd.prog.info? 53).map (·.zero) = some (some (.nilFunc)) := by kernel_rfl
theorem zs53 : (Tryd.prog.info? 53).map (fun i => (i.zero, i.size)) = some (some (.nilFunc), 1) := by kernel_rfl
theorem in54 : (Tryd.prog.info? 54).map (fun i => (i.zero, i.size, i.bytes)) = some (some (.slice none 0 0), 1, 24) := by kernel_rfl
theorem sz54 : (Tryd.prog.info? 54).map (·.size) = some 1 := by kernel_rfl
theorem ze54 : (Tryd.prog.info? 54).map (·.zero) = some (some (.slice none 0 0)) := by kernel_rfl
theorem zs54 : (Tryd.prog.info? 54).map (fun i => (i.zero, i.size)) = some (some (.slice none 0 0), 1) := by kernel_rfl
theorem in55 : (Tryd.prog.info? 55).map (fun i => (i.zero, i.size, i.bytes)) = some (some (.nilFunc), 1, 8) := by kernel_rfl
theorem sz55 : (Tryd.prog.info? 55).map (·.size) = some 1 := by kernel_rfl
theorem ze55 : (Tryd.prog.info? 55).map (·.zero) = some (some (.nilFunc)) := by kernel_rfl
theorem zs55 : (Tryd.prog.info? 55).map (fun i => (i.zero, i.size)) = some (some (.nilFunc), 1) := by kernel_rfl
theorem in56 : (Tryd.prog.info? 56).map (fun i => (i.zero, i.size, i.bytes)) = some (some (.nilFunc), 1, 8) := by kernel_rfl
theorem sz56 : (Tryd.prog.info? 56).map (·.size) = some 1 := by kernel_rfl
theorem ze56 : (Tryd.prog.info? 56).map (·.zero) = some (some (.nilFunc)) := by kernel_rfl
theorem zs56 : (Tryd.prog.info? 56).map (fun i => (i.zero, i.size)) = some (some (.nilFunc), 1) := by kernel_rfl
theorem in57 : (Tryd.prog.info? 57).map (fun i => (i.zero, i.size, i.bytes)) = some (some (.nilFunc), 1, 8) := by kernel_rfl
theorem sz57 : (Tryd.prog.info? 57).map (·.size) = some 1 := by kernel_rfl
theorem ze57 : (Tryd.prog.info? 57).map (·.zero) = some (some (.nilFunc)) := by kernel_rfl
theorem zs57 : (Tryd.prog.info? 57).map (fun i => (i.zero, i.size)) = some (some (.nilFunc), 1) := by kernel_rfl
theorem in58 : (Tryd.prog.info? 58).map (fun i => (i.zero, i.size, i.bytes)) = some (some (.nilFunc), 1, 8) := by kernel_rfl
theorem sz58 : (Tryd.prog.info? 58).map (·.size) = some 1 := by kernel_rfl
theorem ze58 : (Tryd.prog.info? 58).map (·.zero) = some (some (.nilFunc)) := by kernel_rfl
theorem zs58 : (Tryd.prog.info? 58).map (fun i => (i.zero, i.size)) = some (some (.nilFunc), 1) := by kernel_rfl
theorem in59 : (Tryd.prog.info? 59).map (fun i => (i.zero, i.size, i.bytes)) = some (some (.slice none 0 0), 1, 24) := by kernel_rfl
theorem sz59 : (Tryd.prog.info? 59).map (·.size) = some 1 := by kernel_rfl
theorem ze59 : (Tryd.prog.info? 59).map (·.zero) = some (some (.slice none 0 0)) := by kernel_rfl
theorem zs59 : (Tryd.prog.info? 59).map (fun i => (i.zero, i.size)) = some (some (.slice none 0 0), 1) := by kernel_rfl
theorem in60 : (Tryd.prog.info? 60).map (fun i => (i.zero, i.size, i.bytes)) = some (some (.nilFunc), 1, 8) := by kernel_rfl
theorem sz60 : (Tryd.prog.info? 60).map (·.size) = some 1 := by kernel_rfl
theorem ze60 : (Tryd.prog.info? 60).map (·.zero) = some (some (.nilFunc)) := by kernel_rfl
theorem zs60 : (Tryd.prog.info? 60).map (fun i => (i.zero, i.size)) = some (some (.nilFunc), 1) := by kernel_rfl
theorem in61 : (Tryd.prog.info? 61).map (fun i => (i.zero, i.size, i.bytes)) = some (some (.nilFunc), 1, 8) := by kernel_rfl
theorem sz61 : (Tryd.prog.info? 61).map (·.size) = some 1 := by kernel_rfl
theorem ze61 : (Tryd.prog.info? 61).map (·.zero) = some (some (.nilFunc)) := by kernel_rfl
theorem zs61 : (Tryd.prog.info? 61).map (fun i => (i.zero, i.size)) = some (some (.nilFunc), 1) := by kernel_rfl
theorem in62 : (Tryd.prog.info? 62).map (fun i => (i.zero, i.size, i.bytes)) = some (some (.nilFunc), 1, 8) := by kernel_rfl
theorem sz62 : (Tryd.prog.info? 62).map (·.size) = some 1 := by kernel_rfl
theorem ze62 : (Tryd.prog.info? 62).map (·.zero) = some (some (.nilFunc)) := by kernel_rfl
theorem zs62 : (Tryd.prog.info? 62).map (fun i => (i.zero, i.size)) = some (some (.nilFunc), 1) := by kernel_rfl
theorem in63 : (Tryd.prog.info? 63).map (fun i => (i.zero, i.size, i.bytes)) = some (some (.map none), 1, 8) := by kernel_rfl
theorem sz63 : (Tryd.prog.info? 63).map (·.size) = some 1 := by kernel_rfl
theorem ze63 : (Tryd.prog.info? 63).map (·.zero) = some (some (.map none)) := by kernel_rfl
theorem zs63 : (Tryd.prog.info? 63).map (fun i => (i.zero, i.size)) = some (some (.map none), 1) := by kernel_rfl
theorem in64 : (Tryd.prog.info? 64).map (fun i => (i.zero, i.size, i.bytes)) = some (some (.agg #[.map none]), 1, 8) := by kernel_rfl
theorem sz64 : (Tryd.prog.info? 64).map (·.size) = some 1 := by kernel_rfl
theorem ze64 : (Tryd.prog.info? 64).map (·.zero) = some (some (.agg #[.map none])) := by kernel_rfl
theorem zs64 : (Tryd.prog.info? 64).map (fun i => (i.zero, i.size)) = some (some (.agg #[.map none]), 1) := by kernel_rfl
theorem pl64 (w : World) : ((#[{ name := "l", type := 63, offset := 0, embedded := false, tag := "", pkgPath := "cordwood/view", byteOffset := 0 }] : Array Field).mapM (m := Sem) fun f => do pure (f.offset, ← sizeOf f.type)).run Tryd.prog w = .ok #[(0, 1)] w := by kernel_rfl
theorem in65 : (Tryd.prog.info? 65).map (fun i => (i.zero, i.size, i.bytes)) = some (some (.agg #[.map none]), 1, 8) := by kernel_rfl
theorem sz65 : (Tryd.prog.info? 65).map (·.size) = some 1 := by kernel_rfl
theorem ze65 : (Tryd.prog.info? 65).map (·.zero) = some (some (.agg #[.map none])) := by kernel_rfl
theorem zs65 : (Tryd.prog.info? 65).map (fun i => (i.zero, i.size)) = some (some (.agg #[.map none]), 1) := by kernel_rfl
theorem pl65 (w : World) : ((#[{ name := "l", type := 63, offset := 0, embedded := false, tag := "", pkgPath := "cordwood/view", byteOffset := 0 }] : Array Field).mapM (m := Sem) fun f => do pure (f.offset, ← sizeOf f.type)).run Tryd.prog w = .ok #[(0, 1)] w := by kernel_rfl
theorem in66 : (Tryd.prog.info? 66).map (fun i => (i.zero, i.size, i.bytes)) = some (some (.agg #[.int .i64 0, .int .i64 0, .int .i64 0, .int .i64 0, .int .i64 0, .slice none 0 0, .slice none 0 0]), 7, 88) := by kernel_rfl
theorem sz66 : (Tryd.prog.info? 66).map (·.size) = some 7 := by kernel_rfl
theorem ze66 : (Tryd.prog.info? 66).map (·.zero) = some (some (.agg #[.int .i64 0, .int .i64 0, .int .i64 0, .int .i64 0, .int .i64 0, .slice none 0 0, .slice none 0 0])) := by kernel_rfl
theorem pl66 (w : World) : ((#[{ name := "state", type := 3, offset := 0, embedded := false, tag := "", pkgPath := "cordwood/view", byteOffset := 0 }, { name := "m", type := 39, offset := 1, embedded := false, tag := "", pkgPath := "cordwood/view", byteOffset := 8 }] : Array Field).mapM (m := Sem) fun f => do pure (f.offset, ← sizeOf f.type)).run Tryd.prog w = .ok #[(0, 1), (1, 6)] w := by kernel_rfl
theorem in67 : (Tryd.prog.info? 67).map (fun i => (i.zero, i.size, i.bytes)) = some (some (.agg #[.int .i64 0, .int .i64 0, .int .i64 0, .int .i64 0, .int .i64 0, .slice none 0 0, .slice none 0 0]), 7, 88) := by kernel_rfl
theorem sz67 : (Tryd.prog.info? 67).map (·.size) = some 7 := by kernel_rfl
theorem ze67 : (Tryd.prog.info? 67).map (·.zero) = some (some (.agg #[.int .i64 0, .int .i64 0, .int .i64 0, .int .i64 0, .int .i64 0, .slice none 0 0, .slice none 0 0])) := by kernel_rfl
theorem pl67 (w : World) : ((#[{ name := "state", type := 3, offset := 0, embedded := false, tag := "", pkgPath := "cordwood/view", byteOffset := 0 }, { name := "m", type := 39, offset := 1, embedded := false, tag := "", pkgPath := "cordwood/view", byteOffset := 8 }] : Array Field).mapM (m := Sem) fun f => do pure (f.offset, ← sizeOf f.type)).run Tryd.prog w = .ok #[(0, 1), (1, 6)] w := by kernel_rfl
theorem in68 : (Tryd.prog.info? 68).map (fun i => (i.zero, i.size, i.bytes)) = some (some (.nilFunc), 1, 8) := by kernel_rfl
theorem sz68 : (Tryd.prog.info? 68).map (·.size) = some 1 := by kernel_rfl
theorem ze68 : (Tryd.prog.info? 68).map (·.zero) = some (some (.nilFunc)) := by kernel_rfl
theorem zs68 : (Tryd.prog.info? 68).map (fun i => (i.zero, i.size)) = some (some (.nilFunc), 1) := by kernel_rfl
theorem in69 : (Tryd.prog.info? 69).map (fun i => (i.zero, i.size, i.bytes)) = some (some (.agg #[.int .i64 0, .bool false, .int .i64 0]), 3, 24) := by kernel_rfl
theorem sz69 : (Tryd.prog.info? 69).map (·.size) = some 3 := by kernel_rfl
theorem ze69 : (Tryd.prog.info? 69).map (·.zero) = some (some (.agg #[.int .i64 0, .bool false, .int .i64 0])) := by kernel_rfl
theorem pl69 (w : World) : ((#[{ name := "Code", type := 3, offset := 0, embedded := false, tag := "", pkgPath := "", byteOffset := 0 }, { name := "Placed", type := 4, offset := 1, embedded := false, tag := "", pkgPath := "", byteOffset := 8 }, { name := "Pos", type := 3, offset := 2, embedded := false, tag := "", pkgPath := "", byteOffset := 16 }] : Array Field).mapM (m := Sem) fun f => do pure (f.offset, ← sizeOf f.type)).run Tryd.prog w = .ok #[(0, 1), (1, 1), (2, 1)] w := by kernel_rfl
theorem in70 : (Tryd.prog.info? 70).map (fun i => (i.zero, i.size, i.bytes)) = some (some (.agg #[.int .i64 0, .bool false, .int .i64 0]), 3, 24) := by kernel_rfl
theorem sz70 : (Tryd.prog.info? 70).map (·.size) = some 3 := by kernel_rfl
theorem ze70 : (Tryd.prog.info? 70).map (·.zero) = some (some (.agg #[.int .i64 0, .bool false, .int .i64 0])) := by kernel_rfl
theorem pl70 (w : World) : ((#[{ name := "Code", type := 3, offset := 0, embedded := false, tag := "", pkgPath := "", byteOffset := 0 }, { name := "Placed", type := 4, offset := 1, embedded := false, tag := "", pkgPath := "", byteOffset := 8 }, { name := "Pos", type := 3, offset := 2, embedded := false, tag := "", pkgPath := "", byteOffset := 16 }] : Array Field).mapM (m := Sem) fun f => do pure (f.offset, ← sizeOf f.type)).run Tryd.prog w = .ok #[(0, 1), (1, 1), (2, 1)] w := by kernel_rfl
theorem in72 : (Tryd.prog.info? 72).map (fun i => (i.zero, i.size, i.bytes)) = some (some (.nilFunc), 1, 8) := by kernel_rfl
theorem sz72 : (Tryd.prog.info? 72).map (·.size) = some 1 := by kernel_rfl
theorem ze72 : (Tryd.prog.info? 72).map (·.zero) = some (some (.nilFunc)) := by kernel_rfl
theorem zs72 : (Tryd.prog.info? 72).map (fun i => (i.zero, i.size)) = some (some (.nilFunc), 1) := by kernel_rfl
theorem in73 : (Tryd.prog.info? 73).map (fun i => (i.zero, i.size, i.bytes)) = some (some (.agg #[.int .i64 0, .int .i64 0]), 2, 16) := by kernel_rfl
theorem sz73 : (Tryd.prog.info? 73).map (·.size) = some 2 := by kernel_rfl
theorem ze73 : (Tryd.prog.info? 73).map (·.zero) = some (some (.agg #[.int .i64 0, .int .i64 0])) := by kernel_rfl
theorem pl73 (w : World) : ((#[{ name := "Epoch", type := 3, offset := 0, embedded := false, tag := "", pkgPath := "", byteOffset := 0 }, { name := "Start", type := 2, offset := 1, embedded := false, tag := "", pkgPath := "", byteOffset := 8 }] : Array Field).mapM (m := Sem) fun f => do pure (f.offset, ← sizeOf f.type)).run Tryd.prog w = .ok #[(0, 1), (1, 1)] w := by kernel_rfl
theorem in74 : (Tryd.prog.info? 74).map (fun i => (i.zero, i.size, i.bytes)) = some (some (.agg #[.int .i64 0, .int .i64 0]), 2, 16) := by kernel_rfl
theorem sz74 : (Tryd.prog.info? 74).map (·.size) = some 2 := by kernel_rfl
theorem ze74 : (Tryd.prog.info? 74).map (·.zero) = some (some (.agg #[.int .i64 0, .int .i64 0])) := by kernel_rfl
theorem pl74 (w : World) : ((#[{ name := "Epoch", type := 3, offset := 0, embedded := false, tag := "", pkgPath := "", byteOffset := 0 }, { name := "Start", type := 2, offset := 1, embedded := false, tag := "", pkgPath := "", byteOffset := 8 }] : Array Field).mapM (m := Sem) fun f => do pure (f.offset, ← sizeOf f.type)).run Tryd.prog w = .ok #[(0, 1), (1, 1)] w := by kernel_rfl
theorem in75 : (Tryd.prog.info? 75).map (fun i => (i.zero, i.size, i.bytes)) = some (some (.nilFunc), 1, 8) := by kernel_rfl
theorem sz75 : (Tryd.prog.info? 75).map (·.size) = some 1 := by kernel_rfl
theorem ze75 : (Tryd.prog.info? 75).map (·.zero) = some (some (.nilFunc)) := by kernel_rfl
theorem zs75 : (Tryd.prog.info? 75).map (fun i => (i.zero, i.size)) = some (some (.nilFunc), 1) := by kernel_rfl
theorem in77 : (Tryd.prog.info? 77).map (fun i => (i.zero, i.size, i.bytes)) = some (some (.nilFunc), 1, 8) := by kernel_rfl
theorem sz77 : (Tryd.prog.info? 77).map (·.size) = some 1 := by kernel_rfl
theorem ze77 : (Tryd.prog.info? 77).map (·.zero) = some (some (.nilFunc)) := by kernel_rfl
theorem zs77 : (Tryd.prog.info? 77).map (fun i => (i.zero, i.size)) = some (some (.nilFunc), 1) := by kernel_rfl
theorem in78 : (Tryd.prog.info? 78).map (fun i => (i.zero, i.size, i.bytes)) = some (some (.nilFunc), 1, 8) := by kernel_rfl
theorem sz78 : (Tryd.prog.info? 78).map (·.size) = some 1 := by kernel_rfl
theorem ze78 : (Tryd.prog.info? 78).map (·.zero) = some (some (.nilFunc)) := by kernel_rfl
theorem zs78 : (Tryd.prog.info? 78).map (fun i => (i.zero, i.size)) = some (some (.nilFunc), 1) := by kernel_rfl
theorem in79 : (Tryd.prog.info? 79).map (fun i => (i.zero, i.size, i.bytes)) = some (some (.nilFunc), 1, 8) := by kernel_rfl
theorem sz79 : (Tryd.prog.info? 79).map (·.size) = some 1 := by kernel_rfl
theorem ze79 : (Tryd.prog.info? 79).map (·.zero) = some (some (.nilFunc)) := by kernel_rfl
theorem zs79 : (Tryd.prog.info? 79).map (fun i => (i.zero, i.size)) = some (some (.nilFunc), 1) := by kernel_rfl
theorem in80 : (Tryd.prog.info? 80).map (fun i => (i.zero, i.size, i.bytes)) = some (some (.nilFunc), 1, 8) := by kernel_rfl
theorem sz80 : (Tryd.prog.info? 80).map (·.size) = some 1 := by kernel_rfl
theorem ze80 : (Tryd.prog.info? 80).map (·.zero) = some (some (.nilFunc)) := by kernel_rfl
theorem zs80 : (Tryd.prog.info? 80).map (fun i => (i.zero, i.size)) = some (some (.nilFunc), 1) := by kernel_rfl
theorem in81 : (Tryd.prog.info? 81).map (fun i => (i.zero, i.size, i.bytes)) = some (some (.nilFunc), 1, 8) := by kernel_rfl
theorem sz81 : (Tryd.prog.info? 81).map (·.size) = some 1 := by kernel_rfl
theorem ze81 : (Tryd.prog.info? 81).map (·.zero) = some (some (.nilFunc)) := by kernel_rfl
theorem zs81 : (Tryd.prog.info? 81).map (fun i => (i.zero, i.size)) = some (some (.nilFunc), 1) := by kernel_rfl
theorem in82 : (Tryd.prog.info? 82).map (fun i => (i.zero, i.size, i.bytes)) = some (some (.nilFunc), 1, 8) := by kernel_rfl
theorem sz82 : (Tryd.prog.info? 82).map (·.size) = some 1 := by kernel_rfl
theorem ze82 : (Tryd.prog.info? 82).map (·.zero) = some (some (.nilFunc)) := by kernel_rfl
theorem zs82 : (Tryd.prog.info? 82).map (fun i => (i.zero, i.size)) = some (some (.nilFunc), 1) := by kernel_rfl
theorem in83 : (Tryd.prog.info? 83).map (fun i => (i.zero, i.size, i.bytes)) = some (some (.nilFunc), 1, 8) := by kernel_rfl
theorem sz83 : (Tryd.prog.info? 83).map (·.size) = some 1 := by kernel_rfl
theorem ze83 : (Tryd.prog.info? 83).map (·.zero) = some (some (.nilFunc)) := by kernel_rfl
theorem zs83 : (Tryd.prog.info? 83).map (fun i => (i.zero, i.size)) = some (some (.nilFunc), 1) := by kernel_rfl
theorem in84 : (Tryd.prog.info? 84).map (fun i => (i.zero, i.size, i.bytes)) = some (some (.nilFunc), 1, 8) := by kernel_rfl
theorem sz84 : (Tryd.prog.info? 84).map (·.size) = some 1 := by kernel_rfl
theorem ze84 : (Tryd.prog.info? 84).map (·.zero) = some (some (.nilFunc)) := by kernel_rfl
theorem zs84 : (Tryd.prog.info? 84).map (fun i => (i.zero, i.size)) = some (some (.nilFunc), 1) := by kernel_rfl
theorem in85 : (Tryd.prog.info? 85).map (fun i => (i.zero, i.size, i.bytes)) = some (some (.nilFunc), 1, 8) := by kernel_rfl
theorem sz85 : (Tryd.prog.info? 85).map (·.size) = some 1 := by kernel_rfl
theorem ze85 : (Tryd.prog.info? 85).map (·.zero) = some (some (.nilFunc)) := by kernel_rfl
theorem zs85 : (Tryd.prog.info? 85).map (fun i => (i.zero, i.size)) = some (some (.nilFunc), 1) := by kernel_rfl
theorem in86 : (Tryd.prog.info? 86).map (fun i => (i.zero, i.size, i.bytes)) = some (some (.nilFunc), 1, 8) := by kernel_rfl
theorem sz86 : (Tryd.prog.info? 86).map (·.size) = some 1 := by kernel_rfl
theorem ze86 : (Tryd.prog.info? 86).map (·.zero) = some (some (.nilFunc)) := by kernel_rfl
theorem zs86 : (Tryd.prog.info? 86).map (fun i => (i.zero, i.size)) = some (some (.nilFunc), 1) := by kernel_rfl
theorem in87 : (Tryd.prog.info? 87).map (fun i => (i.zero, i.size, i.bytes)) = some (some (.nilFunc), 1, 8) := by kernel_rfl
theorem sz87 : (Tryd.prog.info? 87).map (·.size) = some 1 := by kernel_rfl
theorem ze87 : (Tryd.prog.info? 87).map (·.zero) = some (some (.nilFunc)) := by kernel_rfl
theorem zs87 : (Tryd.prog.info? 87).map (fun i => (i.zero, i.size)) = some (some (.nilFunc), 1) := by kernel_rfl
theorem in88 : (Tryd.prog.info? 88).map (fun i => (i.zero, i.size, i.bytes)) = some (some (.nilFunc), 1, 8) := by kernel_rfl
theorem sz88 : (Tryd.prog.info? 88).map (·.size) = some 1 := by kernel_rfl
theorem ze88 : (Tryd.prog.info? 88).map (·.zero) = some (some (.nilFunc)) := by kernel_rfl
theorem zs88 : (Tryd.prog.info? 88).map (fun i => (i.zero, i.size)) = some (some (.nilFunc), 1) := by kernel_rfl
theorem in89 : (Tryd.prog.info? 89).map (fun i => (i.zero, i.size, i.bytes)) = some (some (.int .u64 0), 1, 8) := by kernel_rfl
theorem sz89 : (Tryd.prog.info? 89).map (·.size) = some 1 := by kernel_rfl
theorem ze89 : (Tryd.prog.info? 89).map (·.zero) = some (some (.int .u64 0)) := by kernel_rfl
theorem zs89 : (Tryd.prog.info? 89).map (fun i => (i.zero, i.size)) = some (some (.int .u64 0), 1) := by kernel_rfl
theorem in90 : (Tryd.prog.info? 90).map (fun i => (i.zero, i.size, i.bytes)) = some (some (.nilFunc), 1, 8) := by kernel_rfl
theorem sz90 : (Tryd.prog.info? 90).map (·.size) = some 1 := by kernel_rfl
theorem ze90 : (Tryd.prog.info? 90).map (·.zero) = some (some (.nilFunc)) := by kernel_rfl
theorem zs90 : (Tryd.prog.info? 90).map (fun i => (i.zero, i.size)) = some (some (.nilFunc), 1) := by kernel_rfl
theorem in91 : (Tryd.prog.info? 91).map (fun i => (i.zero, i.size, i.bytes)) = some (some (.nilFunc), 1, 8) := by kernel_rfl
theorem sz91 : (Tryd.prog.info? 91).map (·.size) = some 1 := by kernel_rfl
theorem ze91 : (Tryd.prog.info? 91).map (·.zero) = some (some (.nilFunc)) := by kernel_rfl
theorem zs91 : (Tryd.prog.info? 91).map (fun i => (i.zero, i.size)) = some (some (.nilFunc), 1) := by kernel_rfl
theorem in92 : (Tryd.prog.info? 92).map (fun i => (i.zero, i.size, i.bytes)) = some (some (.nilFunc), 1, 8) := by kernel_rfl
theorem sz92 : (Tryd.prog.info? 92).map (·.size) = some 1 := by kernel_rfl
theorem ze92 : (Tryd.prog.info? 92).map (·.zero) = some (some (.nilFunc)) := by kernel_rfl
theorem zs92 : (Tryd.prog.info? 92).map (fun i => (i.zero, i.size)) = some (some (.nilFunc), 1) := by kernel_rfl
theorem in93 : (Tryd.prog.info? 93).map (fun i => (i.zero, i.size, i.bytes)) = some (some (.nilFunc), 1, 8) := by kernel_rfl
theorem sz93 : (Tryd.prog.info? 93).map (·.size) = some 1 := by kernel_rfl
theorem ze93 : (Tryd.prog.info? 93).map (·.zero) = some (some (.nilFunc)) := by kernel_rfl
theorem zs93 : (Tryd.prog.info? 93).map (fun i => (i.zero, i.size)) = some (some (.nilFunc), 1) := by kernel_rfl
theorem in95 : (Tryd.prog.info? 95).map (fun i => (i.zero, i.size, i.bytes)) = some (some (.nilFunc), 1, 8) := by kernel_rfl
theorem sz95 : (Tryd.prog.info? 95).map (·.size) = some 1 := by kernel_rfl
theorem ze95 : (Tryd.prog.info? 95).map (·.zero) = some (some (.nilFunc)) := by kernel_rfl
theorem zs95 : (Tryd.prog.info? 95).map (fun i => (i.zero, i.size)) = some (some (.nilFunc), 1) := by kernel_rfl
theorem in96 : (Tryd.prog.info? 96).map (fun i => (i.zero, i.size, i.bytes)) = some (some (.nilFunc), 1, 8) := by kernel_rfl
theorem sz96 : (Tryd.prog.info? 96).map (·.size) = some 1 := by kernel_rfl
theorem ze96 : (Tryd.prog.info? 96).map (·.zero) = some (some (.nilFunc)) := by kernel_rfl
theorem zs96 : (Tryd.prog.info? 96).map (fun i => (i.zero, i.size)) = some (some (.nilFunc), 1) := by kernel_rfl
theorem in97 : (Tryd.prog.info? 97).map (fun i => (i.zero, i.size, i.bytes)) = some (some (.nilFunc), 1, 8) := by kernel_rfl
theorem sz97 : (Tryd.prog.info? 97).map (·.size) = some 1 := by kernel_rfl
theorem ze97 : (Tryd.prog.info? 97).map (·.zero) = some (some (.nilFunc)) := by kernel_rfl
theorem zs97 : (Tryd.prog.info? 97).map (fun i => (i.zero, i.size)) = some (some (.nilFunc), 1) := by kernel_rfl
theorem in98 : (Tryd.prog.info? 98).map (fun i => (i.zero, i.size, i.bytes)) = some (some (.nilFunc), 1, 8) := by kernel_rfl
theorem sz98 : (Tryd.prog.info? 98).map (·.size) = some 1 := by kernel_rfl
theorem ze98 : (Tryd.prog.info? 98).map (·.zero) = some (some (.nilFunc)) := by kernel_rfl
theorem zs98 : (Tryd.prog.info? 98).map (fun i => (i.zero, i.size)) = some (some (.nilFunc), 1) := by kernel_rfl
theorem in99 : (Tryd.prog.info? 99).map (fun i => (i.zero, i.size, i.bytes)) = some (some (.nilFunc), 1, 8) := by kernel_rfl
theorem sz99 : (Tryd.prog.info? 99).map (·.size) = some 1 := by kernel_rfl
theorem ze99 : (Tryd.prog.info? 99).map (·.zero) = some (some (.nilFunc)) := by kernel_rfl
theorem zs99 : (Tryd.prog.info? 99).map (fun i => (i.zero, i.size)) = some (some (.nilFunc), 1) := by kernel_rfl
theorem in100 : (Tryd.prog.info? 100).map (fun i => (i.zero, i.size, i.bytes)) = some (some (.nilFunc), 1, 8) := by kernel_rfl
theorem sz100 : (Tryd.prog.info? 100).map (·.size) = some 1 := by kernel_rfl
theorem ze100 : (Tryd.prog.info? 100).map (·.zero) = some (some (.nilFunc)) := by kernel_rfl
theorem zs100 : (Tryd.prog.info? 100).map (fun i => (i.zero, i.size)) = some (some (.nilFunc), 1) := by kernel_rfl
theorem in101 : (Tryd.prog.info? 101).map (fun i => (i.zero, i.size, i.bytes)) = some (some (.nilFunc), 1, 8) := by kernel_rfl
theorem sz101 : (Tryd.prog.info? 101).map (·.size) = some 1 := by kernel_rfl
theorem ze101 : (Tryd.prog.info? 101).map (·.zero) = some (some (.nilFunc)) := by kernel_rfl
theorem zs101 : (Tryd.prog.info? 101).map (fun i => (i.zero, i.size)) = some (some (.nilFunc), 1) := by kernel_rfl
theorem in102 : (Tryd.prog.info? 102).map (fun i => (i.zero, i.size, i.bytes)) = some (some (.nilFunc), 1, 8) := by kernel_rfl
theorem sz102 : (Tryd.prog.info? 102).map (·.size) = some 1 := by kernel_rfl
theorem ze102 : (Tryd.prog.info? 102).map (·.zero) = some (some (.nilFunc)) := by kernel_rfl
theorem zs102 : (Tryd.prog.info? 102).map (fun i => (i.zero, i.size)) = some (some (.nilFunc), 1) := by kernel_rfl
theorem in103 : (Tryd.prog.info? 103).map (fun i => (i.zero, i.size, i.bytes)) = some (some (.pointer none), 1, 8) := by kernel_rfl
theorem sz103 : (Tryd.prog.info? 103).map (·.size) = some 1 := by kernel_rfl
theorem ze103 : (Tryd.prog.info? 103).map (·.zero) = some (some (.pointer none)) := by kernel_rfl
theorem zs103 : (Tryd.prog.info? 103).map (fun i => (i.zero, i.size)) = some (some (.pointer none), 1) := by kernel_rfl
theorem in105 : (Tryd.prog.info? 105).map (fun i => (i.zero, i.size, i.bytes)) = some (some (.nilFunc), 1, 8) := by kernel_rfl
theorem sz105 : (Tryd.prog.info? 105).map (·.size) = some 1 := by kernel_rfl
theorem ze105 : (Tryd.prog.info? 105).map (·.zero) = some (some (.nilFunc)) := by kernel_rfl
theorem zs105 : (Tryd.prog.info? 105).map (fun i => (i.zero, i.size)) = some (some (.nilFunc), 1) := by kernel_rfl
theorem in106 : (Tryd.prog.info? 106).map (fun i => (i.zero, i.size, i.bytes)) = some (some (.nilFunc), 1, 8) := by kernel_rfl
theorem sz106 : (Tryd.prog.info? 106).map (·.size) = some 1 := by kernel_rfl
theorem ze106 : (Tryd.prog.info? 106).map (·.zero) = some (some (.nilFunc)) := by kernel_rfl
theorem zs106 : (Tryd.prog.info? 106).map (fun i => (i.zero, i.size)) = some (some (.nilFunc), 1) := by kernel_rfl
theorem in107 : (Tryd.prog.info? 107).map (fun i => (i.zero, i.size, i.bytes)) = some (some (.nilFunc), 1, 8) := by kernel_rfl
theorem sz107 : (Tryd.prog.info? 107).map (·.size) = some 1 := by kernel_rfl
theorem ze107 : (Tryd.prog.info? 107).map (·.zero) = some (some (.nilFunc)) := by kernel_rfl
theorem zs107 : (Tryd.prog.info? 107).map (fun i => (i.zero, i.size)) = some (some (.nilFunc), 1) := by kernel_rfl
theorem in108 : (Tryd.prog.info? 108).map (fun i => (i.zero, i.size, i.bytes)) = some (some (.nilFunc), 1, 8) := by kernel_rfl
theorem sz108 : (Tryd.prog.info? 108).map (·.size) = some 1 := by kernel_rfl
theorem ze108 : (Tryd.prog.info? 108).map (·.zero) = some (some (.nilFunc)) := by kernel_rfl
theorem zs108 : (Tryd.prog.info? 108).map (fun i => (i.zero, i.size)) = some (some (.nilFunc), 1) := by kernel_rfl
theorem in109 : (Tryd.prog.info? 109).map (fun i => (i.zero, i.size, i.bytes)) = some (some (.nilFunc), 1, 8) := by kernel_rfl
theorem sz109 : (Tryd.prog.info? 109).map (·.size) = some 1 := by kernel_rfl
theorem ze109 : (Tryd.prog.info? 109).map (·.zero) = some (some (.nilFunc)) := by kernel_rfl
theorem zs109 : (Tryd.prog.info? 109).map (fun i => (i.zero, i.size)) = some (some (.nilFunc), 1) := by kernel_rfl
theorem in110 : (Tryd.prog.info? 110).map (fun i => (i.zero, i.size, i.bytes)) = some (some (.nilFunc), 1, 8) := by kernel_rfl
theorem sz110 : (Tryd.prog.info? 110).map (·.size) = some 1 := by kernel_rfl
theorem ze110 : (Tryd.prog.info? 110).map (·.zero) = some (some (.nilFunc)) := by kernel_rfl
theorem zs110 : (Tryd.prog.info? 110).map (fun i => (i.zero, i.size)) = some (some (.nilFunc), 1) := by kernel_rfl
theorem in111 : (Tryd.prog.info? 111).map (fun i => (i.zero, i.size, i.bytes)) = some (some (.nilFunc), 1, 8) := by kernel_rfl
theorem sz111 : (Tryd.prog.info? 111).map (·.size) = some 1 := by kernel_rfl
theorem ze111 : (Tryd.prog.info? 111).map (·.zero) = some (some (.nilFunc)) := by kernel_rfl
theorem zs111 : (Tryd.prog.info? 111).map (fun i => (i.zero, i.size)) = some (some (.nilFunc), 1) := by kernel_rfl
theorem in112 : (Tryd.prog.info? 112).map (fun i => (i.zero, i.size, i.bytes)) = some (some (.nilFunc), 1, 8) := by kernel_rfl
theorem sz112 : (Tryd.prog.info? 112).map (·.size) = some 1 := by kernel_rfl
theorem ze112 : (Tryd.prog.info? 112).map (·.zero) = some (some (.nilFunc)) := by kernel_rfl
theorem zs112 : (Tryd.prog.info? 112).map (fun i => (i.zero, i.size)) = some (some (.nilFunc), 1) := by kernel_rfl
theorem in113 : (Tryd.prog.info? 113).map (fun i => (i.zero, i.size, i.bytes)) = some (some (.nilFunc), 1, 8) := by kernel_rfl
theorem sz113 : (Tryd.prog.info? 113).map (·.size) = some 1 := by kernel_rfl
theorem ze113 : (Tryd.prog.info? 113).map (·.zero) = some (some (.nilFunc)) := by kernel_rfl
theorem zs113 : (Tryd.prog.info? 113).map (fun i => (i.zero, i.size)) = some (some (.nilFunc), 1) := by kernel_rfl
theorem in114 : (Tryd.prog.info? 114).map (fun i => (i.zero, i.size, i.bytes)) = some (some (.int .u64 0), 1, 8) := by kernel_rfl
theorem sz114 : (Tryd.prog.info? 114).map (·.size) = some 1 := by kernel_rfl
theorem ze114 : (Tryd.prog.info? 114).map (·.zero) = some (some (.int .u64 0)) := by kernel_rfl
theorem zs114 : (Tryd.prog.info? 114).map (fun i => (i.zero, i.size)) = some (some (.int .u64 0), 1) := by kernel_rfl
theorem in115 : (Tryd.prog.info? 115).map (fun i => (i.zero, i.size, i.bytes)) = some (some (.nilFunc), 1, 8) := by kernel_rfl
theorem sz115 : (Tryd.prog.info? 115).map (·.size) = some 1 := by kernel_rfl
theorem ze115 : (Tryd.prog.info? 115).map (·.zero) = some (some (.nilFunc)) := by kernel_rfl
theorem zs115 : (Tryd.prog.info? 115).map (fun i => (i.zero, i.size)) = some (some (.nilFunc), 1) := by kernel_rfl
theorem in116 : (Tryd.prog.info? 116).map (fun i => (i.zero, i.size, i.bytes)) = some (some (.nilFunc), 1, 8) := by kernel_rfl
theorem sz116 : (Tryd.prog.info? 116).map (·.size) = some 1 := by kernel_rfl
theorem ze116 : (Tryd.prog.info? 116).map (·.zero) = some (some (.nilFunc)) := by kernel_rfl
theorem zs116 : (Tryd.prog.info? 116).map (fun i => (i.zero, i.size)) = some (some (.nilFunc), 1) := by kernel_rfl
theorem in117 : (Tryd.prog.info? 117).map (fun i => (i.zero, i.size, i.bytes)) = some (some (.nilFunc), 1, 8) := by kernel_rfl
theorem sz117 : (Tryd.prog.info? 117).map (·.size) = some 1 := by kernel_rfl
theorem ze117 : (Tryd.prog.info? 117).map (·.zero) = some (some (.nilFunc)) := by kernel_rfl
theorem zs117 : (Tryd.prog.info? 117).map (fun i => (i.zero, i.size)) = some (some (.nilFunc), 1) := by kernel_rfl
theorem in118 : (Tryd.prog.info? 118).map (fun i => (i.zero, i.size, i.bytes)) = some (some (.nilFunc), 1, 8) := by kernel_rfl
theorem sz118 : (Tryd.prog.info? 118).map (·.size) = some 1 := by kernel_rfl
theorem ze118 : (Tryd.prog.info? 118).map (·.zero) = some (some (.nilFunc)) := by kernel_rfl
theorem zs118 : (Tryd.prog.info? 118).map (fun i => (i.zero, i.size)) = some (some (.nilFunc), 1) := by kernel_rfl
theorem in119 : (Tryd.prog.info? 119).map (fun i => (i.zero, i.size, i.bytes)) = some (some (.nilFunc), 1, 8) := by kernel_rfl
theorem sz119 : (Tryd.prog.info? 119).map (·.size) = some 1 := by kernel_rfl
theorem ze119 : (Tryd.prog.info? 119).map (·.zero) = some (some (.nilFunc)) := by kernel_rfl
theorem zs119 : (Tryd.prog.info? 119).map (fun i => (i.zero, i.size)) = some (some (.nilFunc), 1) := by kernel_rfl
theorem in120 : (Tryd.prog.info? 120).map (fun i => (i.zero, i.size, i.bytes)) = some (some (.nilFunc), 1, 8) := by kernel_rfl
theorem sz120 : (Tryd.prog.info? 120).map (·.size) = some 1 := by kernel_rfl
theorem ze120 : (Tryd.prog.info? 120).map (·.zero) = some (some (.nilFunc)) := by kernel_rfl
theorem zs120 : (Tryd.prog.info? 120).map (fun i => (i.zero, i.size)) = some (some (.nilFunc), 1) := by kernel_rfl
theorem in121 : (Tryd.prog.info? 121).map (fun i => (i.zero, i.size, i.bytes)) = some (some (.nilFunc), 1, 8) := by kernel_rfl
theorem sz121 : (Tryd.prog.info? 121).map (·.size) = some 1 := by kernel_rfl
theorem ze121 : (Tryd.prog.info? 121).map (·.zero) = some (some (.nilFunc)) := by kernel_rfl
theorem zs121 : (Tryd.prog.info? 121).map (fun i => (i.zero, i.size)) = some (some (.nilFunc), 1) := by kernel_rfl
theorem in122 : (Tryd.prog.info? 122).map (fun i => (i.zero, i.size, i.bytes)) = some (some (.nilFunc), 1, 8) := by kernel_rfl
theorem sz122 : (Tryd.prog.info? 122).map (·.size) = some 1 := by kernel_rfl
theorem ze122 : (Tryd.prog.info? 122).map (·.zero) = some (some (.nilFunc)) := by kernel_rfl
theorem zs122 : (Tryd.prog.info? 122).map (fun i => (i.zero, i.size)) = some (some (.nilFunc), 1) := by kernel_rfl
theorem in123 : (Tryd.prog.info? 123).map (fun i => (i.zero, i.size, i.bytes)) = some (some (.nilFunc), 1, 8) := by kernel_rfl
theorem sz123 : (Tryd.prog.info? 123).map (·.size) = some 1 := by kernel_rfl
theorem ze123 : (Tryd.prog.info? 123).map (·.zero) = some (some (.nilFunc)) := by kernel_rfl
theorem zs123 : (Tryd.prog.info? 123).map (fun i => (i.zero, i.size)) = some (some (.nilFunc), 1) := by kernel_rfl
theorem in124 : (Tryd.prog.info? 124).map (fun i => (i.zero, i.size, i.bytes)) = some (some (.nilFunc), 1, 8) := by kernel_rfl
theorem sz124 : (Tryd.prog.info? 124).map (·.size) = some 1 := by kernel_rfl
theorem ze124 : (Tryd.prog.info? 124).map (·.zero) = some (some (.nilFunc)) := by kernel_rfl
theorem zs124 : (Tryd.prog.info? 124).map (fun i => (i.zero, i.size)) = some (some (.nilFunc), 1) := by kernel_rfl
theorem in125 : (Tryd.prog.info? 125).map (fun i => (i.zero, i.size, i.bytes)) = some (some (.agg #[.slice none 0 0]), 1, 24) := by kernel_rfl
theorem sz125 : (Tryd.prog.info? 125).map (·.size) = some 1 := by kernel_rfl
theorem ze125 : (Tryd.prog.info? 125).map (·.zero) = some (some (.agg #[.slice none 0 0])) := by kernel_rfl
theorem zs125 : (Tryd.prog.info? 125).map (fun i => (i.zero, i.size)) = some (some (.agg #[.slice none 0 0]), 1) := by kernel_rfl
theorem pl125 (w : World) : ((#[{ name := "l", type := 36, offset := 0, embedded := false, tag := "", pkgPath := "cordwood/epoch", byteOffset := 0 }] : Array Field).mapM (m := Sem) fun f => do pure (f.offset, ← sizeOf f.type)).run Tryd.prog w = .ok #[(0, 1)] w := by kernel_rfl
theorem in126 : (Tryd.prog.info? 126).map (fun i => (i.zero, i.size, i.bytes)) = some (some (.agg #[.slice none 0 0]), 1, 24) := by kernel_rfl
theorem sz126 : (Tryd.prog.info? 126).map (·.size) = some 1 := by kernel_rfl
theorem ze126 : (Tryd.prog.info? 126).map (·.zero) = some (some (.agg #[.slice none 0 0])) := by kernel_rfl
theorem zs126 : (Tryd.prog.info? 126).map (fun i => (i.zero, i.size)) = some (some (.agg #[.slice none 0 0]), 1) := by kernel_rfl
theorem pl126 (w : World) : ((#[{ name := "l", type := 36, offset := 0, embedded := false, tag := "", pkgPath := "cordwood/epoch", byteOffset := 0 }] : Array Field).mapM (m := Sem) fun f => do pure (f.offset, ← sizeOf f.type)).run Tryd.prog w = .ok #[(0, 1)] w := by kernel_rfl
theorem in127 : (Tryd.prog.info? 127).map (fun i => (i.zero, i.size, i.bytes)) = some (some (.pointer none), 1, 8) := by kernel_rfl
theorem sz127 : (Tryd.prog.info? 127).map (·.size) = some 1 := by kernel_rfl
theorem ze127 : (Tryd.prog.info? 127).map (·.zero) = some (some (.pointer none)) := by kernel_rfl
theorem zs127 : (Tryd.prog.info? 127).map (fun i => (i.zero, i.size)) = some (some (.pointer none), 1) := by kernel_rfl
theorem in128 : (Tryd.prog.info? 128).map (fun i => (i.zero, i.size, i.bytes)) = some (some (.agg #[.int .i64 0, .nilIface]), 2, 24) := by kernel_rfl
theorem sz128 : (Tryd.prog.info? 128).map (·.size) = some 2 := by kernel_rfl
theorem ze128 : (Tryd.prog.info? 128).map (·.zero) = some (some (.agg #[.int .i64 0, .nilIface])) := by kernel_rfl
theorem pl128 (w : World) : ((#[{ name := "Pos", type := 3, offset := 0, embedded := false, tag := "", pkgPath := "", byteOffset := 0 }, { name := "Err", type := 49, offset := 1, embedded := false, tag := "", pkgPath := "", byteOffset := 8 }] : Array Field).mapM (m := Sem) fun f => do pure (f.offset, ← sizeOf f.type)).run Tryd.prog w = .ok #[(0, 1), (1, 1)] w := by kernel_rfl
theorem in129 : (Tryd.prog.info? 129).map (fun i => (i.zero, i.size, i.bytes)) = some (some (.agg #[.int .i64 0, .nilIface]), 2, 24) := by kernel_rfl
theorem sz129 : (Tryd.prog.info? 129).map (·.size) = some 2 := by kernel_rfl
theorem ze129 : (Tryd.prog.info? 129).map (·.zero) = some (some (.agg #[.int .i64 0, .nilIface])) := by kernel_rfl
theorem pl129 (w : World) : ((#[{ name := "Pos", type := 3, offset := 0, embedded := false, tag := "", pkgPath := "", byteOffset := 0 }, { name := "Err", type := 49, offset := 1, embedded := false, tag := "", pkgPath := "", byteOffset := 8 }] : Array Field).mapM (m := Sem) fun f => do pure (f.offset, ← sizeOf f.type)).run Tryd.prog w = .ok #[(0, 1), (1, 1)] w := by kernel_rfl
theorem in130 : (Tryd.prog.info? 130).map (fun i => (i.zero, i.size, i.bytes)) = some (some (.nilFunc), 1, 8) := by kernel_rfl
theorem sz130 : (Tryd.prog.info? 130).map (·.size) = some 1 := by kernel_rfl
theorem ze130 : (Tryd.prog.info? 130).map (·.zero) = some (some (.nilFunc)) := by kernel_rfl
theorem zs130 : (Tryd.prog.info? 130).map (fun i => (i.zero, i.size)) = some (some (.nilFunc), 1) := by kernel_rfl
theorem in131 : (Tryd.prog.info? 131).map (fun i => (i.zero, i.size, i.bytes)) = some (some (.nilFunc), 1, 8) := by kernel_rfl
theorem sz131 : (Tryd.prog.info? 131).map (·.size) = some 1 := by kernel_rfl
theorem ze131 : (Tryd.prog.info? 131).map (·.zero) = some (some (.nilFunc)) := by kernel_rfl
theorem zs131 : (Tryd.prog.info? 131).map (fun i => (i.zero, i.size)) = some (some (.nilFunc), 1) := by kernel_rfl
theorem in133 : (Tryd.prog.info? 133).map (fun i => (i.zero, i.size, i.bytes)) = some (some (.nilFunc), 1, 8) := by kernel_rfl
theorem sz133 : (Tryd.prog.info? 133).map (·.size) = some 1 := by kernel_rfl
theorem ze133 : (Tryd.prog.info? 133).map (·.zero) = some (some (.nilFunc)) := by kernel_rfl
theorem zs133 : (Tryd.prog.info? 133).map (fun i => (i.zero, i.size)) = some (some (.nilFunc), 1) := by kernel_rfl
theorem in134 : (Tryd.prog.info? 134).map (fun i => (i.zero, i.size, i.bytes)) = some (some (.nilFunc), 1, 8) := by kernel_rfl
theorem sz134 : (Tryd.prog.info? 134).map (·.size) = some 1 := by kernel_rfl
theorem ze134 : (Tryd.prog.info? 134).map (·.zero) = some (some (.nilFunc)) := by kernel_rfl
theorem zs134 : (Tryd.prog.info? 134).map (fun i => (i.zero, i.size)) = some (some (.nilFunc), 1) := by kernel_rfl
theorem in135 : (Tryd.prog.info? 135).map (fun i => (i.zero, i.size, i.bytes)) = some (some (.int .i64 0), 1, 8) := by kernel_rfl
theorem sz135 : (Tryd.prog.info? 135).map (·.size) = some 1 := by kernel_rfl
theorem ze135 : (Tryd.prog.info? 135).map (·.zero) = some (some (.int .i64 0)) := by kernel_rfl
theorem zs135 : (Tryd.prog.info? 135).map (fun i => (i.zero, i.size)) = some (some (.int .i64 0), 1) := by kernel_rfl
theorem in137 : (Tryd.prog.info? 137).map (fun i => (i.zero, i.size, i.bytes)) = some (some (.nilFunc), 1, 8) := by kernel_rfl
theorem sz137 : (Tryd.prog.info? 137).map (·.size) = some 1 := by kernel_rfl
theorem ze137 : (Tryd.prog.info? 137).map (·.zero) = some (some (.nilFunc)) := by kernel_rfl
theorem zs137 : (Tryd.prog.info? 137).map (fun i => (i.zero, i.size)) = some (some (.nilFunc), 1) := by kernel_rfl
theorem in138 : (Tryd.prog.info? 138).map (fun i => (i.zero, i.size, i.bytes)) = some (some (.nilFunc), 1, 8) := by kernel_rfl
theorem sz138 : (Tryd.prog.info? 138).map (·.size) = some 1 := by kernel_rfl
theorem ze138 : (Tryd.prog.info? 138).map (·.zero) = some (some (.nilFunc)) := by kernel_rfl
theorem zs138 : (Tryd.prog.info? 138).map (fun i => (i.zero, i.size)) = some (some (.nilFunc), 1) := by kernel_rfl
theorem in139 : (Tryd.prog.info? 139).map (fun i => (i.zero, i.size, i.bytes)) = some (some (.nilFunc), 1, 8) := by kernel_rfl
theorem sz139 : (Tryd.prog.info? 139).map (·.size) = some 1 := by kernel_rfl
theorem ze139 : (Tryd.prog.info? 139).map (·.zero) = some (some (.nilFunc)) := by kernel_rfl
theorem zs139 : (Tryd.prog.info? 139).map (fun i => (i.zero, i.size)) = some (some (.nilFunc), 1) := by kernel_rfl
theorem in141 : (Tryd.prog.info? 141).map (fun i => (i.zero, i.size, i.bytes)) = some (some (.nilFunc), 1, 8) := by kernel_rfl
theorem sz141 : (Tryd.prog.info? 141).map (·.size) = some 1 := by kernel_rfl
theorem ze141 : (Tryd.prog.info? 141).map (·.zero) = some (some (.nilFunc)) := by kernel_rfl
theorem zs141 : (Tryd.prog.info? 141).map (fun i => (i.zero, i.size)) = some (some (.nilFunc), 1) := by kernel_rfl
theorem in142 : (Tryd.prog.info? 142).map (fun i => (i.zero, i.size, i.bytes)) = some (some (.nilFunc), 1, 8) := by kernel_rfl
theorem sz142 : (Tryd.prog.info? 142).map (·.size) = some 1 := by kernel_rfl
theorem ze142 : (Tryd.prog.info? 142).map (·.zero) = some (some (.nilFunc)) := by kernel_rfl
theorem zs142 : (Tryd.prog.info? 142).map (fun i => (i.zero, i.size)) = some (some (.nilFunc), 1) := by kernel_rfl
theorem in143 : (Tryd.prog.info? 143).map (fun i => (i.zero, i.size, i.bytes)) = some (some (.nilFunc), 1, 8) := by kernel_rfl
theorem sz143 : (Tryd.prog.info? 143).map (·.size) = some 1 := by kernel_rfl
theorem ze143 : (Tryd.prog.info? 143).map (·.zero) = some (some (.nilFunc)) := by kernel_rfl
theorem zs143 : (Tryd.prog.info? 143).map (fun i => (i.zero, i.size)) = some (some (.nilFunc), 1) := by kernel_rfl
theorem in144 : (Tryd.prog.info? 144).map (fun i => (i.zero, i.size, i.bytes)) = some (some (.nilFunc), 1, 8) := by kernel_rfl
theorem sz144 : (Tryd.prog.info? 144).map (·.size) = some 1 := by kernel_rfl
theorem ze144 : (Tryd.prog.info? 144).map (·.zero) = some (some (.nilFunc)) := by kernel_rfl
theorem zs144 : (Tryd.prog.info? 144).map (fun i => (i.zero, i.size)) = some (some (.nilFunc), 1) := by kernel_rfl
theorem in145 : (Tryd.prog.info? 145).map (fun i => (i.zero, i.size, i.bytes)) = some (some (.nilFunc), 1, 8) := by kernel_rfl
theorem sz145 : (Tryd.prog.info? 145).map (·.size) = some 1 := by kernel_rfl
theorem ze145 : (Tryd.prog.info? 145).map (·.zero) = some (some (.nilFunc)) := by kernel_rfl
theorem zs145 : (Tryd.prog.info? 145).map (fun i => (i.zero, i.size)) = some (some (.nilFunc), 1) := by kernel_rfl
theorem in146 : (Tryd.prog.info? 146).map (fun i => (i.zero, i.size, i.bytes)) = some (some (.slice none 0 0), 1, 24) := by kernel_rfl
theorem sz146 : (Tryd.prog.info? 146).map (·.size) = some 1 := by kernel_rfl
theorem ze146 : (Tryd.prog.info? 146).map (·.zero) = some (some (.slice none 0 0)) := by kernel_rfl
theorem zs146 : (Tryd.prog.info? 146).map (fun i => (i.zero, i.size)) = some (some (.slice none 0 0), 1) := by kernel_rfl
theorem in147 : (Tryd.prog.info? 147).map (fun i => (i.zero, i.size, i.bytes)) = some (some (.nilFunc), 1, 8) := by kernel_rfl
theorem sz147 : (Tryd.prog.info? 147).map (·.size) = some 1 := by kernel_rfl
theorem ze147 : (Tryd.prog.info? 147).map (·.zero) = some (some (.nilFunc)) := by kernel_rfl
theorem zs147 : (Tryd.prog.info? 147).map (fun i => (i.zero, i.size)) = some (some (.nilFunc), 1) := by kernel_rfl
theorem in148 : (Tryd.prog.info? 148).map (fun i => (i.zero, i.size, i.bytes)) = some (some (.nilFunc), 1, 8) := by kernel_rfl
theorem sz148 : (Tryd.prog.info? 148).map (·.size) = some 1 := by kernel_rfl
theorem ze148 : (Tryd.prog.info? 148).map (·.zero) = some (some (.nilFunc)) := by kernel_rfl
theorem zs148 : (Tryd.prog.info? 148).map (fun i => (i.zero, i.size)) = some (some (.nilFunc), 1) := by kernel_rfl
theorem in149 : (Tryd.prog.info? 149).map (fun i => (i.zero, i.size, i.bytes)) = some (some (.nilFunc), 1, 8) := by kernel_rfl
theorem sz149 : (Tryd.prog.info? 149).map (·.size) = some 1 := by kernel_rfl
theorem ze149 : (Tryd.prog.info? 149).map (·.zero) = some (some (.nilFunc)) := by kernel_rfl
theorem zs149 : (Tryd.prog.info? 149).map (fun i => (i.zero, i.size)) = some (some (.nilFunc), 1) := by kernel_rfl
theorem in150 : (Tryd.prog.info? 150).map (fun i => (i.zero, i.size, i.bytes)) = some (some (.slice none 0 0), 1, 24) := by kernel_rfl
theorem sz150 : (Tryd.prog.info? 150).map (·.size) = some 1 := by kernel_rfl
theorem ze150 : (Tryd.prog.info? 150).map (·.zero) = some (some (.slice none 0 0)) := by kernel_rfl
theorem zs150 : (Tryd.prog.info? 150).map (fun i => (i.zero, i.size)) = some (some (.slice none 0 0), 1) := by kernel_rfl
theorem in151 : (Tryd.prog.info? 151).map (fun i => (i.zero, i.size, i.bytes)) = some (some (.nilFunc), 1, 8) := by kernel_rfl
theorem sz151 : (Tryd.prog.info? 151).map (·.size) = some 1 := by kernel_rfl
theorem ze151 : (Tryd.prog.info? 151).map (·.zero) = some (some (.nilFunc)) := by kernel_rfl
theorem zs151 : (Tryd.prog.info? 151).map (fun i => (i.zero, i.size)) = some (some (.nilFunc), 1) := by kernel_rfl
theorem in152 : (Tryd.prog.info? 152).map (fun i => (i.zero, i.size, i.bytes)) = some (some (.nilFunc), 1, 8) := by kernel_rfl
theorem sz152 : (Tryd.prog.info? 152).map (·.size) = some 1 := by kernel_rfl
theorem ze152 : (Tryd.prog.info? 152).map (·.zero) = some (some (.nilFunc)) := by kernel_rfl
theorem zs152 : (Tryd.prog.info? 152).map (fun i => (i.zero, i.size)) = some (some (.nilFunc), 1) := by kernel_rfl
theorem in153 : (Tryd.prog.info? 153).map (fun i => (i.zero, i.size, i.bytes)) = some (some (.int .u64 0), 1, 8) := by kernel_rfl
theorem sz153 : (Tryd.prog.info? 153).map (·.size) = some 1 := by kernel_rfl
theorem ze153 : (Tryd.prog.info? 153).map (·.zero) = some (some (.int .u64 0)) := by kernel_rfl
theorem zs153 : (Tryd.prog.info? 153).map (fun i => (i.zero, i.size)) = some (some (.int .u64 0), 1) := by kernel_rfl
theorem in154 : (Tryd.prog.info? 154).map (fun i => (i.zero, i.size, i.bytes)) = some (some (.nilFunc), 1, 8) := by kernel_rfl
theorem sz154 : (Tryd.prog.info? 154).map (·.size) = some 1 := by kernel_rfl
theorem ze154 : (Tryd.prog.info? 154).map (·.zero) = some (some (.nilFunc)) := by kernel_rfl
theorem zs154 : (Tryd.prog.info? 154).map (fun i => (i.zero, i.size)) = some (some (.nilFunc), 1) := by kernel_rfl
theorem in155 : (Tryd.prog.info? 155).map (fun i => (i.zero, i.size, i.bytes)) = some (some (.nilFunc), 1, 8) := by kernel_rfl
theorem sz155 : (Tryd.prog.info? 155).map (·.size) = some 1 := by kernel_rfl
theorem ze155 : (Tryd.prog.info? 155).map (·.zero) = some (some (.nilFunc)) := by kernel_rfl
theorem zs155 : (Tryd.prog.info? 155).map (fun i => (i.zero, i.size)) = some (some (.nilFunc), 1) := by kernel_rfl
theorem in156 : (Tryd.prog.info? 156).map (fun i => (i.zero, i.size, i.bytes)) = some (some (.nilFunc), 1, 8) := by kernel_rfl
theorem sz156 : (Tryd.prog.info? 156).map (·.size) = some 1 := by kernel_rfl
theorem ze156 : (Tryd.prog.info? 156).map (·.zero) = some (some (.nilFunc)) := by kernel_rfl
theorem zs156 : (Tryd.prog.info? 156).map (fun i => (i.zero, i.size)) = some (some (.nilFunc), 1) := by kernel_rfl
theorem in157 : (Tryd.prog.info? 157).map (fun i => (i.zero, i.size, i.bytes)) = some (some (.pointer none), 1, 8) := by kernel_rfl
theorem sz157 : (Tryd.prog.info? 157).map (·.size) = some 1 := by kernel_rfl
theorem ze157 : (Tryd.prog.info? 157).map (·.zero) = some (some (.pointer none)) := by kernel_rfl
theorem zs157 : (Tryd.prog.info? 157).map (fun i => (i.zero, i.size)) = some (some (.pointer none), 1) := by kernel_rfl
theorem in158 : (Tryd.prog.info? 158).map (fun i => (i.zero, i.size, i.bytes)) = some (some (.nilFunc), 1, 8) := by kernel_rfl
theorem sz158 : (Tryd.prog.info? 158).map (·.size) = some 1 := by kernel_rfl
theorem ze158 : (Tryd.prog.info? 158).map (·.zero) = some (some (.nilFunc)) := by kernel_rfl
theorem zs158 : (Tryd.prog.info? 158).map (fun i => (i.zero, i.size)) = some (some (.nilFunc), 1) := by kernel_rfl
theorem in159 : (Tryd.prog.info? 159).map (fun i => (i.zero, i.size, i.bytes)) = some (some (.nilFunc), 1, 8) := by kernel_rfl
theorem sz159 : (Tryd.prog.info? 159).map (·.size) = some 1 := by kernel_rfl
theorem ze159 : (Tryd.prog.info? 159).map (·.zero) = some (some (.nilFunc)) := by kernel_rfl
theorem zs159 : (Tryd.prog.info? 159).map (fun i => (i.zero, i.size)) = some (some (.nilFunc), 1) := by kernel_rfl
theorem in160 : (Tryd.prog.info? 160).map (fun i => (i.zero, i.size, i.bytes)) = some (some (.nilFunc), 1, 8) := by kernel_rfl
theorem sz160 : (Tryd.prog.info? 160).map (·.size) = some 1 := by kernel_rfl
theorem ze160 : (Tryd.prog.info? 160).map (·.zero) = some (some (.nilFunc)) := by kernel_rfl
theorem zs160 : (Tryd.prog.info? 160).map (fun i => (i.zero, i.size)) = some (some (.nilFunc), 1) := by kernel_rfl
theorem in161 : (Tryd.prog.info? 161).map (fun i => (i.zero, i.size, i.bytes)) = some (some (.nilFunc), 1, 8) := by kernel_rfl
theorem sz161 : (Tryd.prog.info? 161).map (·.size) = some 1 := by kernel_rfl
theorem ze161 : (Tryd.prog.info? 161).map (·.zero) = some (some (.nilFunc)) := by kernel_rfl
theorem zs161 : (Tryd.prog.info? 161).map (fun i => (i.zero, i.size)) = some (some (.nilFunc), 1) := by kernel_rfl
theorem in162 : (Tryd.prog.info? 162).map (fun i => (i.zero, i.size, i.bytes)) = some (some (.nilFunc), 1, 8) := by kernel_rfl
theorem sz162 : (Tryd.prog.info? 162).map (·.size) = some 1 := by kernel_rfl
theorem ze162 : (Tryd.prog.info? 162).map (·.zero) = some (some (.nilFunc)) := by kernel_rfl
theorem zs162 : (Tryd.prog.info? 162).map (fun i => (i.zero, i.size)) = some (some (.nilFunc), 1) := by kernel_rfl
theorem in163 : (Tryd.prog.info? 163).map (fun i => (i.zero, i.size, i.bytes)) = some (some (.nilFunc), 1, 8) := by kernel_rfl
theorem sz163 : (Tryd.prog.info? 163).map (·.size) = some 1 := by kernel_rfl
theorem ze163 : (Tryd.prog.info? 163).map (·.zero) = some (some (.nilFunc)) := by kernel_rfl
theorem zs163 : (Tryd.prog.info? 163).map (fun i => (i.zero, i.size)) = some (some (.nilFunc), 1) := by kernel_rfl
theorem in164 : (Tryd.prog.info? 164).map (fun i => (i.zero, i.size, i.bytes)) = some (some (.agg #[.int .u32 0, .int .u32 0, .int .u32 0, .int .u32 0, .int .u32 0, .int .u32 0, .int .u32 0, .int .u32 0, .int .u32 0, .int .u32 0, .int .u32 0, .int .u32 0, .int .u32 0, .int .u32 0, .int .u32 0, .int .u32 0]), 16, 64) := by kernel_rfl
theorem sz164 : (Tryd.prog.info? 164).map (·.size) = some 16 := by kernel_rfl
theorem ze164 : (Tryd.prog.info? 164).map (·.zero) = some (some (.agg #[.int .u32 0, .int .u32 0, .int .u32 0, .int .u32 0, .int .u32 0, .int .u32 0, .int .u32 0, .int .u32 0, .int .u32 0, .int .u32 0, .int .u32 0, .int .u32 0, .int .u32 0, .int .u32 0, .int .u32 0, .int .u32 0])) := by kernel_rfl
theorem in165 : (Tryd.prog.info? 165).map (fun i => (i.zero, i.size, i.bytes)) = some (some (.nilFunc), 1, 8) := by kernel_rfl
theorem sz165 : (Tryd.prog.info? 165).map (·.size) = some 1 := by kernel_rfl
theorem ze165 : (Tryd.prog.info? 165).map (·.zero) = some (some (.nilFunc)) := by kernel_rfl
theorem zs165 : (Tryd.prog.info? 165).map (fun i => (i.zero, i.size)) = some (some (.nilFunc), 1) := by kernel_rfl
theorem in166 : (Tryd.prog.info? 166).map (fun i => (i.zero, i.size, i.bytes)) = some (some (.pointer none), 1, 8) := by kernel_rfl
theorem sz166 : (Tryd.prog.info? 166).map (·.size) = some 1 := by kernel_rfl
theorem ze166 : (Tryd.prog.info? 166).map (·.zero) = some (some (.pointer none)) := by kernel_rfl
theorem zs166 : (Tryd.prog.info? 166).map (fun i => (i.zero, i.size)) = some (some (.pointer none), 1) := by kernel_rfl
theorem in168 : (Tryd.prog.info? 168).map (fun i => (i.zero, i.size, i.bytes)) = some (some (.nilFunc), 1, 8) := by kernel_rfl
theorem sz168 : (Tryd.prog.info? 168).map (·.size) = some 1 := by kernel_rfl
theorem ze168 : (Tryd.prog.info? 168).map (·.zero) = some (some (.nilFunc)) := by kernel_rfl
theorem zs168 : (Tryd.prog.info? 168).map (fun i => (i.zero, i.size)) = some (some (.nilFunc), 1) := by kernel_rfl
theorem in169 : (Tryd.prog.info? 169).map (fun i => (i.zero, i.size, i.bytes)) = some (some (.nilFunc), 1, 8) := by kernel_rfl
theorem sz169 : (Tryd.prog.info? 169).map (·.size) = some 1 := by kernel_rfl
theorem ze169 : (Tryd.prog.info? 169).map (·.zero) = some (some (.nilFunc)) := by kernel_rfl
theorem zs169 : (Tryd.prog.info? 169).map (fun i => (i.zero, i.size)) = some (some (.nilFunc), 1) := by kernel_rfl
theorem in170 : (Tryd.prog.info? 170).map (fun i => (i.zero, i.size, i.bytes)) = some (some (.nilFunc), 1, 8) := by kernel_rfl
theorem sz170 : (Tryd.prog.info? 170).map (·.size) = some 1 := by kernel_rfl
theorem ze170 : (Tryd.prog.info? 170).map (·.zero) = some (some (.nilFunc)) := by kernel_rfl
theorem zs170 : (Tryd.prog.info? 170).map (fun i => (i.zero, i.size)) = some (some (.nilFunc), 1) := by kernel_rfl
theorem in171 : (Tryd.prog.info? 171).map (fun i => (i.zero, i.size, i.bytes)) = some (some (.nilFunc), 1, 8) := by kernel_rfl
theorem sz171 : (Tryd.prog.info? 171).map (·.size) = some 1 := by kernel_rfl
theorem ze171 : (Tryd.prog.info? 171).map (·.zero) = some (some (.nilFunc)) := by kernel_rfl
theorem zs171 : (Tryd.prog.info? 171).map (fun i => (i.zero, i.size)) = some (some (.nilFunc), 1) := by kernel_rfl
theorem in172 : (Tryd.prog.info? 172).map (fun i => (i.zero, i.size, i.bytes)) = some (some (.pointer none), 1, 8) := by kernel_rfl
theorem sz172 : (Tryd.prog.info? 172).map (·.size) = some 1 := by kernel_rfl
theorem ze172 : (Tryd.prog.info? 172).map (·.zero) = some (some (.pointer none)) := by kernel_rfl
theorem zs172 : (Tryd.prog.info? 172).map (fun i => (i.zero, i.size)) = some (some (.pointer none), 1) := by kernel_rfl
theorem in173 : (Tryd.prog.info? 173).map (fun i => (i.zero, i.size, i.bytes)) = some (some (.nilFunc), 1, 8) := by kernel_rfl
theorem sz173 : (Tryd.prog.info? 173).map (·.size) = some 1 := by kernel_rfl
theorem ze173 : (Tryd.prog.info? 173).map (·.zero) = some (some (.nilFunc)) := by kernel_rfl
theorem zs173 : (Tryd.prog.info? 173).map (fun i => (i.zero, i.size)) = some (some (.nilFunc), 1) := by kernel_rfl
theorem in174 : (Tryd.prog.info? 174).map (fun i => (i.zero, i.size, i.bytes)) = some (some (.agg #[.pointer none, .pointer none, .pointer none, .string ByteArray.empty]), 4, 40) := by kernel_rfl
theorem sz174 : (Tryd.prog.info? 174).map (·.size) = some 4 := by kernel_rfl
theorem ze174 : (Tryd.prog.info? 174).map (·.zero) = some (some (.agg #[.pointer none, .pointer none, .pointer none, .string ByteArray.empty])) := by kernel_rfl
theorem pl174 (w : World) : ((#[{ name := "_interface", type := 17, offset := 0, embedded := false, tag := "", pkgPath := "runtime", byteOffset := 0 }, { name := "concrete", type := 17, offset := 1, embedded := false, tag := "", pkgPath := "runtime", byteOffset := 8 }, { name := "asserted", type := 17, offset := 2, embedded := false, tag := "", pkgPath := "runtime", byteOffset := 16 }, { name := "missingMethod", type := 9, offset := 3, embedded := false, tag := "", pkgPath := "runtime", byteOffset := 24 }] : Array Field).mapM (m := Sem) fun f => do pure (f.offset, ← sizeOf f.type)).run Tryd.prog w = .ok #[(0, 1), (1, 1), (2, 1), (3, 1)] w := by kernel_rfl
theorem in175 : (Tryd.prog.info? 175).map (fun i => (i.zero, i.size, i.bytes)) = some (some (.agg #[.pointer none, .pointer none, .pointer none, .string ByteArray.empty]), 4, 40) := by kernel_rfl
theorem sz175 : (Tryd.prog.info? 175).map (·.size) = some 4 := by kernel_rfl
theorem ze175 : (Tryd.prog.info? 175).map (·.zero) = some (some (.agg #[.pointer none, .pointer none, .pointer none, .string ByteArray.empty])) := by kernel_rfl
theorem pl175 (w : World) : ((#[{ name := "_interface", type := 17, offset := 0, embedded := false, tag := "", pkgPath := "runtime", byteOffset := 0 }, { name := "concrete", type := 17, offset := 1, embedded := false, tag := "", pkgPath := "runtime", byteOffset := 8 }, { name := "asserted", type := 17, offset := 2, embedded := false, tag := "", pkgPath := "runtime", byteOffset := 16 }, { name := "missingMethod", type := 9, offset := 3, embedded := false, tag := "", pkgPath := "runtime", byteOffset := 24 }] : Array Field).mapM (m := Sem) fun f => do pure (f.offset, ← sizeOf f.type)).run Tryd.prog w = .ok #[(0, 1), (1, 1), (2, 1), (3, 1)] w := by kernel_rfl
theorem in179 : (Tryd.prog.info? 179).map (fun i => (i.zero, i.size, i.bytes)) = some (some (.int .u8 0), 1, 1) := by kernel_rfl
theorem sz179 : (Tryd.prog.info? 179).map (·.size) = some 1 := by kernel_rfl
theorem ze179 : (Tryd.prog.info? 179).map (·.zero) = some (some (.int .u8 0)) := by kernel_rfl
theorem zs179 : (Tryd.prog.info? 179).map (fun i => (i.zero, i.size)) = some (some (.int .u8 0), 1) := by kernel_rfl
theorem in180 : (Tryd.prog.info? 180).map (fun i => (i.zero, i.size, i.bytes)) = some (some (.int .u8 0), 1, 1) := by kernel_rfl
theorem sz180 : (Tryd.prog.info? 180).map (·.size) = some 1 := by kernel_rfl
theorem ze180 : (Tryd.prog.info? 180).map (·.zero) = some (some (.int .u8 0)) := by kernel_rfl
theorem zs180 : (Tryd.prog.info? 180).map (fun i => (i.zero, i.size)) = some (some (.int .u8 0), 1) := by kernel_rfl
theorem in181 : (Tryd.prog.info? 181).map (fun i => (i.zero, i.size, i.bytes)) = some (some (.nilFunc), 1, 8) := by kernel_rfl
theorem sz181 : (Tryd.prog.info? 181).map (·.size) = some 1 := by kernel_rfl
theorem ze181 : (Tryd.prog.info? 181).map (·.zero) = some (some (.nilFunc)) := by kernel_rfl
theorem zs181 : (Tryd.prog.info? 181).map (fun i => (i.zero, i.size)) = some (some (.nilFunc), 1) := by kernel_rfl
theorem in182 : (Tryd.prog.info? 182).map (fun i => (i.zero, i.size, i.bytes)) = some (some (.pointer none), 1, 8) := by kernel_rfl
theorem sz182 : (Tryd.prog.info? 182).map (·.size) = some 1 := by kernel_rfl
theorem ze182 : (Tryd.prog.info? 182).map (·.zero) = some (some (.pointer none)) := by kernel_rfl
theorem zs182 : (Tryd.prog.info? 182).map (fun i => (i.zero, i.size)) = some (some (.pointer none), 1) := by kernel_rfl
theorem in183 : (Tryd.prog.info? 183).map (fun i => (i.zero, i.size, i.bytes)) = some (some (.int .i32 0), 1, 4) := by kernel_rfl
theorem sz183 : (Tryd.prog.info? 183).map (·.size) = some 1 := by kernel_rfl
theorem ze183 : (Tryd.prog.info? 183).map (·.zero) = some (some (.int .i32 0)) := by kernel_rfl
theorem zs183 : (Tryd.prog.info? 183).map (fun i => (i.zero, i.size)) = some (some (.int .i32 0), 1) := by kernel_rfl
theorem in184 : (Tryd.prog.info? 184).map (fun i => (i.zero, i.size, i.bytes)) = some (some (.int .i32 0), 1, 4) := by kernel_rfl
theorem sz184 : (Tryd.prog.info? 184).map (·.size) = some 1 := by kernel_rfl
theorem ze184 : (Tryd.prog.info? 184).map (·.zero) = some (some (.int .i32 0)) := by kernel_rfl
theorem zs184 : (Tryd.prog.info? 184).map (fun i => (i.zero, i.size)) = some (some (.int .i32 0), 1) := by kernel_rfl
theorem in185 : (Tryd.prog.info? 185).map (fun i => (i.zero, i.size, i.bytes)) = some (some (.agg #[.int .u64 0, .int .u64 0, .int .u32 0, .int .u8 0, .int .u8 0, .int .u8 0, .int .u8 0, .nilFunc, .pointer none, .int .i32 0, .int .i32 0]), 11, 48) := by kernel_rfl
theorem sz185 : (Tryd.prog.info? 185).map (·.size) = some 11 := by kernel_rfl
theorem ze185 : (Tryd.prog.info? 185).map (·.zero) = some (some (.agg #[.int .u64 0, .int .u64 0, .int .u32 0, .int .u8 0, .int .u8 0, .int .u8 0, .int .u8 0, .nilFunc, .pointer none, .int .i32 0, .int .i32 0])) := by kernel_rfl
theorem pl185 (w : World) : ((#[{ name := "Size_", type := 12, offset := 0, embedded := false, tag := "", pkgPath := "", byteOffset := 0 }, { name := "PtrBytes", type := 12, offset := 1, embedded := false, tag := "", pkgPath := "", byteOffset := 8 }, { name := "Hash", type := 33, offset := 2, embedded := false, tag := "", pkgPath := "", byteOffset := 16 }, { name := "TFlag", type := 179, offset := 3, embedded := false, tag := "", pkgPath := "", byteOffset := 20 }, { name := "Align_", type := 5, offset := 4, embedded := false, tag := "", pkgPath := "", byteOffset := 21 }, { name := "FieldAlign_", type := 5, offset := 5, embedded := false, tag := "", pkgPath := "", byteOffset := 22 }, { name := "Kind_", type := 180, offset := 6, embedded := false, tag := "", pkgPath := "", byteOffset := 23 }, { name := "Equal", type := 181, offset := 7, embedded := false, tag := "", pkgPath := "", byteOffset := 24 }, { name := "GCData", type := 182, offset := 8, embedded := false, tag := "", pkgPath := "", byteOffset := 32 }, { name := "Str", type := 183, offset := 9, embedded := false, tag := "", pkgPath := "", byteOffset := 40 }, { name := "PtrToThis", type := 184, offset := 10, embedded := false, tag := "", pkgPath := "", byteOffset := 44 }] : Array Field).mapM (m := Sem) fun f => do pure (f.offset, ← sizeOf f.type)).run Tryd.prog w = .ok #[(0, 1), (1, 1), (2, 1), (3, 1), (4, 1), (5, 1), (6, 1), (7, 1), (8, 1), (9, 1), (10, 1)] w := by kernel_rfl
theorem in186 : (Tryd.prog.info? 186).map (fun i => (i.zero, i.size, i.bytes)) = some (some (.agg #[.int .u64 0, .int .u64 0, .int .u32 0, .int .u8 0, .int .u8 0, .int .u8 0, .int .u8 0, .nilFunc, .pointer none, .int .i32 0, .int .i32 0]), 11, 48) := by kernel_rfl
theorem sz186 : (Tryd.prog.info? 186).map (·.size) = some 11 := by kernel_rfl
theorem ze186 : (Tryd.prog.info? 186).map (·.zero) = some (some (.agg #[.int .u64 0, .int .u64 0, .int .u32 0, .int .u8 0, .int .u8 0, .int .u8 0, .int .u8 0, .nilFunc, .pointer none, .int .i32 0, .int .i32 0])) := by kernel_rfl
theorem pl186 (w : World) : ((#[{ name := "Size_", type := 12, offset := 0, embedded := false, tag := "", pkgPath := "", byteOffset := 0 }, { name := "PtrBytes", type := 12, offset := 1, embedded := false, tag := "", pkgPath := "", byteOffset := 8 }, { name := "Hash", type := 33, offset := 2, embedded := false, tag := "", pkgPath := "", byteOffset := 16 }, { name := "TFlag", type := 179, offset := 3, embedded := false, tag := "", pkgPath := "", byteOffset := 20 }, { name := "Align_", type := 5, offset := 4, embedded := false, tag := "", pkgPath := "", byteOffset := 21 }, { name := "FieldAlign_", type := 5, offset := 5, embedded := false, tag := "", pkgPath := "", byteOffset := 22 }, { name := "Kind_", type := 180, offset := 6, embedded := false, tag := "", pkgPath := "", byteOffset := 23 }, { name := "Equal", type := 181, offset := 7, embedded := false, tag := "", pkgPath := "", byteOffset := 24 }, { name := "GCData", type := 182, offset := 8, embedded := false, tag := "", pkgPath := "", byteOffset := 32 }, { name := "Str", type := 183, offset := 9, embedded := false, tag := "", pkgPath := "", byteOffset := 40 }, { name := "PtrToThis", type := 184, offset := 10, embedded := false, tag := "", pkgPath := "", byteOffset := 44 }] : Array Field).mapM (m := Sem) fun f => do pure (f.offset, ← sizeOf f.type)).run Tryd.prog w = .ok #[(0, 1), (1, 1), (2, 1), (3, 1), (4, 1), (5, 1), (6, 1), (7, 1), (8, 1), (9, 1), (10, 1)] w := by kernel_rfl
theorem in187 : (Tryd.prog.info? 187).map (fun i => (i.zero, i.size, i.bytes)) = some (some (.nilFunc), 1, 8) := by kernel_rfl
theorem sz187 : (Tryd.prog.info? 187).map (·.size) = some 1 := by kernel_rfl
theorem ze187 : (Tryd.prog.info? 187).map (·.zero) = some (some (.nilFunc)) := by kernel_rfl
theorem zs187 : (Tryd.prog.info? 187).map (fun i => (i.zero, i.size)) = some (some (.nilFunc), 1) := by kernel_rfl
theorem in188 : (Tryd.prog.info? 188).map (fun i => (i.zero, i.size, i.bytes)) = some (some (.agg #[.string ByteArray.empty]), 1, 16) := by kernel_rfl
theorem sz188 : (Tryd.prog.info? 188).map (·.size) = some 1 := by kernel_rfl
theorem ze188 : (Tryd.prog.info? 188).map (·.zero) = some (some (.agg #[.string ByteArray.empty])) := by kernel_rfl
theorem zs188 : (Tryd.prog.info? 188).map (fun i => (i.zero, i.size)) = some (some (.agg #[.string ByteArray.empty]), 1) := by kernel_rfl
theorem pl188 (w : World) : ((#[{ name := "s", type := 9, offset := 0, embedded := false, tag := "", pkgPath := "errors", byteOffset := 0 }] : Array Field).mapM (m := Sem) fun f => do pure (f.offset, ← sizeOf f.type)).run Tryd.prog w = .ok #[(0, 1)] w := by kernel_rfl
theorem in189 : (Tryd.prog.info? 189).map (fun i => (i.zero, i.size, i.bytes)) = some (some (.agg #[.string ByteArray.empty]), 1, 16) := by kernel_rfl
theorem sz189 : (Tryd.prog.info? 189).map (·.size) = some 1 := by kernel_rfl
theorem ze189 : (Tryd.prog.info? 189).map (·.zero) = some (some (.agg #[.string ByteArray.empty])) := by kernel_rfl
theorem zs189 : (Tryd.prog.info? 189).map (fun i => (i.zero, i.size)) = some (some (.agg #[.string ByteArray.empty]), 1) := by kernel_rfl
theorem pl189 (w : World) : ((#[{ name := "s", type := 9, offset := 0, embedded := false, tag := "", pkgPath := "errors", byteOffset := 0 }] : Array Field).mapM (m := Sem) fun f => do pure (f.offset, ← sizeOf f.type)).run Tryd.prog w = .ok #[(0, 1)] w := by kernel_rfl
theorem in191 : (Tryd.prog.info? 191).map (fun i => (i.zero, i.size, i.bytes)) = some (some (.nilFunc), 1, 8) := by kernel_rfl
theorem sz191 : (Tryd.prog.info? 191).map (·.size) = some 1 := by kernel_rfl
theorem ze191 : (Tryd.prog.info? 191).map (·.zero) = some (some (.nilFunc)) := by kernel_rfl
theorem zs191 : (Tryd.prog.info? 191).map (fun i => (i.zero, i.size)) = some (some (.nilFunc), 1) := by kernel_rfl
theorem en2 (args : Array Value) (w : World) : (callFunc 2 args).run Tryd.prog w = .ok (.enter 2 args) w := by kernel_rfl
theorem en3 (args : Array Value) (w : World) : (callFunc 3 args).run Tryd.prog w = .ok (.enter 3 args) w := by kernel_rfl
theorem en4 (args : Array Value) (w : World) : (callFunc 4 args).run Tryd.prog w = .ok (.enter 4 args) w := by kernel_rfl
theorem en5 (args : Array Value) (w : World) : (callFunc 5 args).run Tryd.prog w = .ok (.enter 5 args) w := by kernel_rfl
theorem en6 (args : Array Value) (w : World) : (callFunc 6 args).run Tryd.prog w = .ok (.enter 6 args) w := by kernel_rfl
theorem en7 (args : Array Value) (w : World) : (callFunc 7 args).run Tryd.prog w = .ok (.enter 7 args) w := by kernel_rfl
theorem en8 (args : Array Value) (w : World) : (callFunc 8 args).run Tryd.prog w = .ok (.enter 8 args) w := by kernel_rfl
theorem en9 (args : Array Value) (w : World) : (callFunc 9 args).run Tryd.prog w = .ok (.enter 9 args) w := by kernel_rfl
theorem en10 (args : Array Value) (w : World) : (callFunc 10 args).run Tryd.prog w = .ok (.enter 10 args) w := by kernel_rfl
theorem en11 (args : Array Value) (w : World) : (callFunc 11 args).run Tryd.prog w = .ok (.enter 11 args) w := by kernel_rfl
theorem en12 (args : Array Value) (w : World) : (callFunc 12 args).run Tryd.prog w = .ok (.enter 12 args) w := by kernel_rfl
theorem en13 (args : Array Value) (w : World) : (callFunc 13 args).run Tryd.prog w = .ok (.enter 13 args) w := by kernel_rfl
theorem en14 (args : Array Value) (w : World) : (callFunc 14 args).run Tryd.prog w = .ok (.enter 14 args) w := by kernel_rfl
theorem en15 (args : Array Value) (w : World) : (callFunc 15 args).run Tryd.prog w = .ok (.enter 15 args) w := by kernel_rfl
theorem en16 (args : Array Value) (w : World) : (callFunc 16 args).run Tryd.prog w = .ok (.enter 16 args) w := by kernel_rfl
theorem en17 (args : Array Value) (w : World) : (callFunc 17 args).run Tryd.prog w = .ok (.enter 17 args) w := by kernel_rfl
theorem en18 (args : Array Value) (w : World) : (callFunc 18 args).run Tryd.prog w = .ok (.enter 18 args) w := by kernel_rfl
theorem en19 (args : Array Value) (w : World) : (callFunc 19 args).run Tryd.prog w = .ok (.enter 19 args) w := by kernel_rfl
theorem en20 (args : Array Value) (w : World) : (callFunc 20 args).run Tryd.prog w = .ok (.enter 20 args) w := by kernel_rfl
theorem en21 (args : Array Value) (w : World) : (callFunc 21 args).run Tryd.prog w = .ok (.enter 21 args) w := by kernel_rfl
theorem en22 (args : Array Value) (w : World) : (callFunc 22 args).run Tryd.prog w = .ok (.enter 22 args) w := by kernel_rfl
theorem en23 (args : Array Value) (w : World) : (callFunc 23 args).run Tryd.prog w = .ok (.enter 23 args) w := by kernel_rfl
theorem en24 (args : Array Value) (w : World) : (callFunc 24 args).run Tryd.prog w = .ok (.enter 24 args) w := by kernel_rfl
theorem en25 (args : Array Value) (w : World) : (callFunc 25 args).run Tryd.prog w = .ok (.enter 25 args) w := by kernel_rfl
theorem en26 (args : Array Value) (w : World) : (callFunc 26 args).run Tryd.prog w = .ok (.enter 26 args) w := by kernel_rfl
theorem en27 (args : Array Value) (w : World) : (callFunc 27 args).run Tryd.prog w = .ok (.enter 27 args) w := by kernel_rfl
theorem en28 (args : Array Value) (w : World) : (callFunc 28 args).run Tryd.prog w = .ok (.enter 28 args) w := by kernel_rfl
theorem en29 (args : Array Value) (w : World) : (callFunc 29 args).run Tryd.prog w = .ok (.enter 29 args) w := by kernel_rfl
theorem en30 (args : Array Value) (w : World) : (callFunc 30 args).run Tryd.prog w = .ok (.enter 30 args) w := by kernel_rfl
theorem en31 (args : Array Value) (w : World) : (callFunc 31 args).run Tryd.prog w = .ok (.enter 31 args) w := by kernel_rfl
theorem en32 (args : Array Value) (w : World) : (callFunc 32 args).run Tryd.prog w = .ok (.enter 32 args) w := by kernel_rfl
theorem en33 (args : Array Value) (w : World) : (callFunc 33 args).run Tryd.prog w = .ok (.enter 33 args) w := by kernel_rfl
theorem en34 (args : Array Value) (w : World) : (callFunc 34 args).run Tryd.prog w = .ok (.enter 34 args) w := by kernel_rfl
theorem en35 (args : Array Value) (w : World) : (callFunc 35 args).run Tryd.prog w = .ok (.enter 35 args) w := by kernel_rfl
theorem en36 (args : Array Value) (w : World) : (callFunc 36 args).run Tryd.prog w = .ok (.enter 36 args) w := by kernel_rfl
theorem en37 (args : Array Value) (w : World) : (callFunc 37 args).run Tryd.prog w = .ok (.enter 37 args) w := by kernel_rfl
theorem en38 (args : Array Value) (w : World) : (callFunc 38 args).run Tryd.prog w = .ok (.enter 38 args) w := by kernel_rfl
theorem en39 (args : Array Value) (w : World) : (callFunc 39 args).run Tryd.prog w = .ok (.enter 39 args) w := by kernel_rfl
theorem en40 (args : Array Value) (w : World) : (callFunc 40 args).run Tryd.prog w = .ok (.enter 40 args) w := by kernel_rfl
theorem en41 (args : Array Value) (w : World) : (callFunc 41 args).run Tryd.prog w = .ok (.enter 41 args) w := by kernel_rfl
theorem en42 (args : Array Value) (w : World) : (callFunc 42 args).run Tryd.prog w = .ok (.enter 42 args) w := by kernel_rfl
theorem en43 (args : Array Value) (w : World) : (callFunc 43 args).run Tryd.prog w = .ok (.enter 43 args) w := by kernel_rfl
theorem en44 (args : Array Value) (w : World) : (callFunc 44 args).run Tryd.prog w = .ok (.enter 44 args) w := by kernel_rfl
theorem en45 (args : Array Value) (w : World) : (callFunc 45 args).run Tryd.prog w = .ok (.enter 45 args) w := by kernel_rfl
theorem en46 (args : Array Value) (w : World) : (callFunc 46 args).run Tryd.prog w = .ok (.enter 46 args) w := by kernel_rfl
theorem en47 (args : Array Value) (w : World) : (callFunc 47 args).run Tryd.prog w = .ok (.enter 47 args) w := by kernel_rfl
theorem en48 (args : Array Value) (w : World) : (callFunc 48 args).run Tryd.prog w = .ok (.enter 48 args) w := by kernel_rfl
theorem en49 (args : Array Value) (w : World) : (callFunc 49 args).run Tryd.prog w = .ok (.enter 49 args) w := by kernel_rfl
theorem en50 (args : Array Value) (w : World) : (callFunc 50 args).run Tryd.prog w = .ok (.enter 50 args) w := by kernel_rfl
theorem en51 (args : Array Value) (w : World) : (callFunc 51 args).run Tryd.prog w = .ok (.enter 51 args) w := by kernel_rfl
theorem en52 (args : Array Value) (w : World) : (callFunc 52 args).run Tryd.prog w = .ok (.enter 52 args) w := by kernel_rfl
theorem en53 (args : Array Value) (w : World) : (callFunc 53 args).run Tryd.prog w = .ok (.enter 53 args) w := by kernel_rfl
theorem en54 (args : Array Value) (w : World) : (callFunc 54 args).run Tryd.prog w = .ok (.enter 54 args) w := by kernel_rfl
theorem en55 (args : Array Value) (w : World) : (callFunc 55 args).run Tryd.prog w = .ok (.enter 55 args) w := by kernel_rfl
theorem en56 (args : Array Value) (w : World) : (callFunc 56 args).run Tryd.prog w = .ok (.enter 56 args) w := by kernel_rfl
theorem en57 (args : Array Value) (w : World) : (callFunc 57 args).run Tryd.prog w = .ok (.enter 57 args) w := by kernel_rfl
theorem en58 (args : Array Value) (w : World) : (callFunc 58 args).run Tryd.prog w = .ok (.enter 58 args) w := by kernel_rfl
theorem en59 (args : Array Value) (w : World) : (callFunc 59 args).run Tryd.prog w = .ok (.enter 59 args) w := by kernel_rfl
theorem en60 (args : Array Value) (w : World) : (callFunc 60 args).run Tryd.prog w = .ok (.enter 60 args) w := by kernel_rfl
theorem en61 (args : Array Value) (w : World) : (callFunc 61 args).run Tryd.prog w = .ok (.enter 61 args) w := by kernel_rfl
theorem en62 (args : Array Value) (w : World) : (callFunc 62 args).run Tryd.prog w = .ok (.enter 62 args) w := by kernel_rfl
theorem en63 (args : Array Value) (w : World) : (callFunc 63 args).run Tryd.prog w = .ok (.enter 63 args) w := by kernel_rfl
theorem en64 (args : Array Value) (w : World) : (callFunc 64 args).run Tryd.prog w = .ok (.enter 64 args) w := by kernel_rfl
theorem en65 (args : Array Value) (w : World) : (callFunc 65 args).run Tryd.prog w = .ok (.enter 65 args) w := by kernel_rfl
theorem en66 (args : Array Value) (w : World) : (callFunc 66 args).run Tryd.prog w = .ok (.enter 66 args) w := by kernel_rfl
theorem en67 (args : Array Value) (w : World) : (callFunc 67 args).run Tryd.prog w = .ok (.enter 67 args) w := by kernel_rfl
theorem en68 (args : Array Value) (w : World) : (callFunc 68 args).run Tryd.prog w = .ok (.enter 68 args) w := by kernel_rfl
theorem en69 (args : Array Value) (w : World) : (callFunc 69 args).run Tryd.prog w = .ok (.enter 69 args) w := by kernel_rfl
theorem en70 (args : Array Value) (w : World) : (callFunc 70 args).run Tryd.prog w = .ok (.enter 70 args) w := by kernel_rfl
theorem en71 (args : Array Value) (w : World) : (callFunc 71 args).run Tryd.prog w = .ok (.enter 71 args) w := by kernel_rfl
theorem en72 (args : Array Value) (w : World) : (callFunc 72 args).run Tryd.prog w = .ok (.enter 72 args) w := by kernel_rfl
theorem en73 (args : Array Value) (w : World) : (callFunc 73 args).run Tryd.prog w = .ok (.enter 73 args) w := by kernel_rfl
theorem en74 (args : Array Value) (w : World) : (callFunc 74 args).run Tryd.prog w = .ok (.enter 74 args) w := by kernel_rfl
theorem en75 (args : Array Value) (w : World) : (callFunc 75 args).run Tryd.prog w = .ok (.enter 75 args) w := by kernel_rfl
theorem en76 (args : Array Value) (w : World) : (callFunc 76 args).run Tryd.prog w = .ok (.enter 76 args) w := by kernel_rfl
theorem en77 (args : Array Value) (w : World) : (callFunc 77 args).run Tryd.prog w = .ok (.enter 77 args) w := by kernel_rfl
theorem en78 (args : Array Value) (w : World) : (callFunc 78 args).run Tryd.prog w = .ok (.enter 78 args) w := by kernel_rfl
theorem en79 (args : Array Value) (w : World) : (callFunc 79 args).run Tryd.prog w = .ok (.enter 79 args) w := by kernel_rfl
theorem en80 (args : Array Value) (w : World) : (callFunc 80 args).run Tryd.prog w = .ok (.enter 80 args) w := by kernel_rfl
theorem en81 (args : Array Value) (w : World) : (callFunc 81 args).run Tryd.prog w = .ok (.enter 81 args) w := by kernel_rfl
theorem en82 (args : Array Value) (w : World) : (callFunc 82 args).run Tryd.prog w = .ok (.enter 82 args) w := by kernel_rfl
theorem en83 (args : Array Value) (w : World) : (callFunc 83 args).run Tryd.prog w = .ok (.enter 83 args) w := by kernel_rfl
theorem en84 (args : Array Value) (w : World) : (callFunc 84 args).run Tryd.prog w = .ok (.enter 84 args) w := by kernel_rfl
theorem en85 (args : Array Value) (w : World) : (callFunc 85 args).run Tryd.prog w = .ok (.enter 85 args) w := by kernel_rfl
theorem en86 (args : Array Value) (w : World) : (callFunc 86 args).run Tryd.prog w = .ok (.enter 86 args) w := by kernel_rfl
theorem en87 (args : Array Value) (w : World) : (callFunc 87 args).run Tryd.prog w = .ok (.enter 87 args) w := by kernel_rfl
theorem en88 (args : Array Value) (w : World) : (callFunc 88 args).run Tryd.prog w = .ok (.enter 88 args) w := by kernel_rfl
theorem en89 (args : Array Value) (w : World) : (callFunc 89 args).run Tryd.prog w = .ok (.enter 89 args) w := by kernel_rfl
theorem en90 (args : Array Value) (w : World) : (callFunc 90 args).run Tryd.prog w = .ok (.enter 90 args) w := by kernel_rfl
theorem en91 (args : Array Value) (w : World) : (callFunc 91 args).run Tryd.prog w = .ok (.enter 91 args) w := by kernel_rfl
theorem en92 (args : Array Value) (w : World) : (callFunc 92 args).run Tryd.prog w = .ok (.enter 92 args) w := by kernel_rfl
theorem en93 (args : Array Value) (w : World) : (callFunc 93 args).run Tryd.prog w = .ok (.enter 93 args) w := by kernel_rfl
theorem en94 (args : Array Value) (w : World) : (callFunc 94 args).run Tryd.prog w = .ok (.enter 94 args) w := by kernel_rfl
theorem en95 (args : Array Value) (w : World) : (callFunc 95 args).run Tryd.prog w = .ok (.enter 95 args) w := by kernel_rfl
theorem en96 (args : Array Value) (w : World) : (callFunc 96 args).run Tryd.prog w = .ok (.enter 96 args) w := by kernel_rfl
theorem en97 (args : Array Value) (w : World) : (callFunc 97 args).run Tryd.prog w = .ok (.enter 97 args) w := by kernel_rfl
theorem en98 (args : Array Value) (w : World) : (callFunc 98 args).run Tryd.prog w = .ok (.enter 98 args) w := by kernel_rfl
theorem en99 (args : Array Value) (w : World) : (callFunc 99 args).run Tryd.prog w = .ok (.enter 99 args) w := by kernel_rfl
theorem en100 (args : Array Value) (w : World) : (callFunc 100 args).run Tryd.prog w = .ok (.enter 100 args) w := by kernel_rfl
theorem en101 (args : Array Value) (w : World) : (callFunc 101 args).run Tryd.prog w = .ok (.enter 101 args) w := by kernel_rfl
theorem en102 (args : Array Value) (w : World) : (callFunc 102 args).run Tryd.prog w = .ok (.enter 102 args) w := by kernel_rfl
theorem en103 (args : Array Value) (w : World) : (callFunc 103 args).run Tryd.prog w = .ok (.enter 103 args) w := by kernel_rfl
theorem en104 (args : Array Value) (w : World) : (callFunc 104 args).run Tryd.prog w = .ok (.enter 104 args) w := by kernel_rfl
theorem en105 (args : Array Value) (w : World) : (callFunc 105 args).run Tryd.prog w = .ok (.enter 105 args) w := by kernel_rfl
theorem en106 (args : Array Value) (w : World) : (callFunc 106 args).run Tryd.prog w = .ok (.enter 106 args) w := by kernel_rfl
theorem en107 (args : Array Value) (w : World) : (callFunc 107 args).run Tryd.prog w = .ok (.enter 107 args) w := by kernel_rfl
theorem en108 (args : Array Value) (w : World) : (callFunc 108 args).run Tryd.prog w = .ok (.enter 108 args) w := by kernel_rfl
theorem en109 (args : Array Value) (w : World) : (callFunc 109 args).run Tryd.prog w = .ok (.enter 109 args) w := by kernel_rfl
theorem en110 (args : Array Value) (w : World) : (callFunc 110 args).run Tryd.prog w = .ok (.enter 110 args) w := by kernel_rfl
theorem en111 (args : Array Value) (w : World) : (callFunc 111 args).run Tryd.prog w = .ok (.enter 111 args) w := by kernel_rfl
theorem en112 (args : Array Value) (w : World) : (callFunc 112 args).run Tryd.prog w = .ok (.enter 112 args) w := by kernel_rfl
theorem en113 (args : Array Value) (w : World) : (callFunc 113 args).run Tryd.prog w = .ok (.enter 113 args) w := by kernel_rfl
theorem en114 (args : Array Value) (w : World) : (callFunc 114 args).run Tryd.prog w = .ok (.enter 114 args) w := by kernel_rfl
theorem en115 (args : Array Value) (w : World) : (callFunc 115 args).run Tryd.prog w = .ok (.enter 115 args) w := by kernel_rfl
theorem en116 (args : Array Value) (w : World) : (callFunc 116 args).run Tryd.prog w = .ok (.enter 116 args) w := by kernel_rfl
theorem en117 (args : Array Value) (w : World) : (callFunc 117 args).run Tryd.prog w = .ok (.enter 117 args) w := by kernel_rfl
theorem en118 (args : Array Value) (w : World) : (callFunc 118 args).run Tryd.prog w = .ok (.enter 118 args) w := by kernel_rfl
theorem en119 (args : Array Value) (w : World) : (callFunc 119 args).run Tryd.prog w = .ok (.enter 119 args) w := by kernel_rfl
theorem en120 (args : Array Value) (w : World) : (callFunc 120 args).run Tryd.prog w = .ok (.enter 120 args) w := by kernel_rfl
theorem en121 (args : Array Value) (w : World) : (callFunc 121 args).run Tryd.prog w = .ok (.enter 121 args) w := by kernel_rfl
theorem en122 (args : Array Value) (w : World) : (callFunc 122 args).run Tryd.prog w = .ok (.enter 122 args) w := by kernel_rfl
theorem en123 (args : Array Value) (w : World) : (callFunc 123 args).run Tryd.prog w = .ok (.enter 123 args) w := by kernel_rfl
theorem en124 (args : Array Value) (w : World) : (callFunc 124 args).run Tryd.prog w = .ok (.enter 124 args) w := by kernel_rfl
theorem en125 (args : Array Value) (w : World) : (callFunc 125 args).run Tryd.prog w = .ok (.enter 125 args) w := by kernel_rfl
theorem en126 (args : Array Value) (w : World) : (callFunc 126 args).run Tryd.prog w = .ok (.enter 126 args) w := by kernel_rfl
theorem en127 (args : Array Value) (w : World) : (callFunc 127 args).run Tryd.prog w = .ok (.enter 127 args) w := by kernel_rfl
theorem en128 (args : Array Value) (w : World) : (callFunc 128 args).run Tryd.prog w = .ok (.enter 128 args) w := by kernel_rfl
theorem en129 (args : Array Value) (w : World) : (callFunc 129 args).run Tryd.prog w = .ok (.enter 129 args) w := by kernel_rfl
theorem mixes : Tryd.prog.follows .mixedOrders = true := by kernel_rfl
end Go.Proofs.YtkogkokmcmallaaDoor
