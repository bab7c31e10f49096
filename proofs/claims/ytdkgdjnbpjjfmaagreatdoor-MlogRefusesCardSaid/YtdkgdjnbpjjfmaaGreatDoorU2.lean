/- The seat's closed facts: sizes and zeros of types, entries of functions. Written by a program (mkty.py). Contracts over chunks that every seat wants. What a row's condition on the sentinels gives a walk: 'Errs'; what its condition on a slice gives: 'seqV'. Slices of slices, of structs, that came in. Manifests: the plain model. Errors in cells, in interfaces. An error, bare or with a place, as a value and a chunk; the chunks of a view. A manifest that came in. Manifests: the leaves: pairs, objects, copies, equality. Manifests: objects, equality, what is amiss. Manifests: what is amiss with one. SameInts, SameTexts. Manifests: Valid, Same, Clone, Names; what may follow what. Views: plain laws. A view's methods: New, State, Refers, Apply. A kind and a manifest, put together. A view's Apply. max. A view's Next. vint.Put, over chunks. How a sign is turned. Bytes: a copy. -/
import Derived.Test.YtdkgdjnbpjjfmaaGreatDoorU1
import Derived.Test.YtdkgdjnbpjjfmaaGreatDoorProg
import Derived.Test.YtdkgdjnbpjjfmaaGreatDoorRows
import Derived.LaidMore
import Derived.LaidHandle
import Derived.LaidLaws
import Derived.MakeChecks
import Derived.OpenShut
import Derived.Carry
import Derived.Deep.Slices
import Derived.Laws.StructEq
import Derived.Laws.IdiomStrings
namespace Go.Proofs.YtdkgdjnbpjjfmaaGreatDoor
set_option linter.all false
open Go.RowKit
theorem sz2 : (Tryz.prog.info? 2).map (·.size) = some 1 := by kernel_rfl
theorem sz3 : (Tryz.prog.info? 3).map (·.size) = some 1 := by kernel_rfl
theorem sz4 : (Tryz.prog.info? 4).map (·.size) = some 1 := by kernel_rfl
theorem in5 : (Tryz.prog.info? 5).map (fun i => (i.zero, i.size, i.bytes)) = some (some (.int .u8 0), 1, 1) := by kernel_rfl
theorem sz5 : (Tryz.prog.info? 5).map (·.size) = some 1 := by kernel_rfl
theorem zs5 : (Tryz.prog.info? 5).map (fun i => (i.zero, i.size)) = some (some (.int .u8 0), 1) := by kernel_rfl
theorem sz9 : (Tryz.prog.info? 9).map (·.size) = some 1 := by kernel_rfl
theorem ze9 : (Tryz.prog.info? 9).map (·.zero) = some (some (.string ByteArray.empty)) := by kernel_rfl
theorem in23 : (Tryz.prog.info? 23).map (fun i => (i.zero, i.size, i.bytes)) = some (some (.slice none 0 0), 1, 24) := by kernel_rfl
theorem sz23 : (Tryz.prog.info? 23).map (·.size) = some 1 := by kernel_rfl
theorem zs23 : (Tryz.prog.info? 23).map (fun i => (i.zero, i.size)) = some (some (.slice none 0 0), 1) := by kernel_rfl
theorem sz25 : (Tryz.prog.info? 25).map (·.size) = some 1 := by kernel_rfl
theorem sz27 : (Tryz.prog.info? 27).map (·.size) = some 1 := by kernel_rfl
theorem sz33 : (Tryz.prog.info? 33).map (·.size) = some 1 := by kernel_rfl
theorem sz36 : (Tryz.prog.info? 36).map (·.size) = some 1 := by kernel_rfl
theorem zDe : (Tryz.prog.info? 37).map (·.size) = some 1 := by kernel_rfl
theorem zDj : (Tryz.prog.info? 39).map (·.size) = some 6 := by kernel_rfl
theorem ze39 : (Tryz.prog.info? 39).map (·.zero) = some (some (.agg #[.int .i64 0, .int .i64 0, .int .i64 0, .int .i64 0, .slice none 0 0, .slice none 0 0])) := by kernel_rfl
theorem pl39 (w : World) : ((#[{ name := "ID", type := 3, offset := 0, embedded := false, tag := "", pkgPath := "", byteOffset := 0 }, { name := "Base", type := 2, offset := 1, embedded := false, tag := "", pkgPath := "", byteOffset := 8 }, { name := "End", type := 2, offset := 2, embedded := false, tag := "", pkgPath := "", byteOffset := 16 }, { name := "Time", type := 2, offset := 3, embedded := false, tag := "", pkgPath := "", byteOffset := 24 }, { name := "Epochs", type := 36, offset := 4, embedded := false, tag := "", pkgPath := "", byteOffset := 32 }, { name := "Objects", type := 37, offset := 5, embedded := false, tag := "", pkgPath := "", byteOffset := 56 }] : Array Field).mapM (m := Sem) fun f => do pure (f.offset, ← sizeOf f.type)).run Tryz.prog w = .ok #[(0, 1), (1, 1), (2, 1), (3, 1), (4, 1), (5, 1)] w := by kernel_rfl
theorem sz41 : (Tryz.prog.info? 41).map (·.size) = some 7 := by kernel_rfl
theorem ze41 : (Tryz.prog.info? 41).map (·.zero) = some (some (.agg #[.int .i64 0, .int .i64 0, .int .i64 0, .int .i64 0, .int .i64 0, .slice none 0 0, .slice none 0 0])) := by kernel_rfl
theorem pl41 (w : World) : ((#[{ name := "Kind", type := 3, offset := 0, embedded := false, tag := "", pkgPath := "", byteOffset := 0 }, { name := "M", type := 39, offset := 1, embedded := false, tag := "", pkgPath := "", byteOffset := 8 }] : Array Field).mapM (m := Sem) fun f => do pure (f.offset, ← sizeOf f.type)).run Tryz.prog w = .ok #[(0, 1), (1, 6)] w := by kernel_rfl
theorem sz53 : (Tryz.prog.info? 53).map (·.size) = some 1 := by kernel_rfl
theorem zs53 : (Tryz.prog.info? 53).map (fun i => (i.zero, i.size)) = some (some (.nilFunc), 1) := by kernel_rfl
theorem zEi : (Tryz.prog.info? 57).map (·.size) = some 3 := by kernel_rfl
theorem ze57 : (Tryz.prog.info? 57).map (·.zero) = some (some (.agg #[.int .i64 0, .bool false, .int .i64 0])) := by kernel_rfl
theorem pl57 (w : World) : ((#[{ name := "Code", type := 3, offset := 0, embedded := false, tag := "", pkgPath := "", byteOffset := 0 }, { name := "Placed", type := 4, offset := 1, embedded := false, tag := "", pkgPath := "", byteOffset := 8 }, { name := "Pos", type := 3, offset := 2, embedded := false, tag := "", pkgPath := "", byteOffset := 16 }] : Array Field).mapM (m := Sem) fun f => do pure (f.offset, ← sizeOf f.type)).run Tryz.prog w = .ok #[(0, 1), (1, 1), (2, 1)] w := by kernel_rfl
theorem sz69 : (Tryz.prog.info? 69).map (·.size) = some 1 := by kernel_rfl
theorem sz70 : (Tryz.prog.info? 70).map (·.size) = some 1 := by kernel_rfl
theorem ze72 : (Tryz.prog.info? 72).map (·.zero) = some (some (.agg #[.int .i64 0, .map none, .map none, .slice none 0 0, .int .i64 0, .int .i64 0, .bool false, .int .i64 0])) := by kernel_rfl
theorem pl72 (w : World) : ((#[{ name := "room", type := 3, offset := 0, embedded := false, tag := "", pkgPath := "cordwood/disk", byteOffset := 0 }, { name := "names", type := 69, offset := 1, embedded := false, tag := "", pkgPath := "cordwood/disk", byteOffset := 8 }, { name := "kept", type := 69, offset := 2, embedded := false, tag := "", pkgPath := "cordwood/disk", byteOffset := 16 }, { name := "changes", type := 70, offset := 3, embedded := false, tag := "", pkgPath := "cordwood/disk", byteOffset := 24 }, { name := "files", type := 3, offset := 4, embedded := false, tag := "", pkgPath := "cordwood/disk", byteOffset := 48 }, { name := "armed", type := 3, offset := 5, embedded := false, tag := "", pkgPath := "cordwood/disk", byteOffset := 56 }, { name := "down", type := 4, offset := 6, embedded := false, tag := "", pkgPath := "cordwood/disk", byteOffset := 64 }, { name := "calls", type := 3, offset := 7, embedded := false, tag := "", pkgPath := "cordwood/disk", byteOffset := 72 }] : Array Field).mapM (m := Sem) fun f => do pure (f.offset, ← sizeOf f.type)).run Tryz.prog w = .ok #[(0, 1), (1, 1), (2, 1), (3, 1), (4, 1), (5, 1), (6, 1), (7, 1)] w := by kernel_rfl
theorem ze74 : (Tryz.prog.info? 74).map (·.zero) = some (some (.agg #[.pointer none, .int .i64 0, .pointer none, .int .i64 0, .int .i64 0, .int .i64 0])) := by kernel_rfl
theorem pl74 (w : World) : ((#[{ name := "d", type := 25, offset := 0, embedded := false, tag := "", pkgPath := "cordwood/mlog", byteOffset := 0 }, { name := "every", type := 3, offset := 1, embedded := false, tag := "", pkgPath := "cordwood/mlog", byteOffset := 8 }, { name := "v", type := 33, offset := 2, embedded := false, tag := "", pkgPath := "cordwood/mlog", byteOffset := 16 }, { name := "seq", type := 2, offset := 3, embedded := false, tag := "", pkgPath := "cordwood/mlog", byteOffset := 24 }, { name := "since", type := 3, offset := 4, embedded := false, tag := "", pkgPath := "cordwood/mlog", byteOffset := 32 }, { name := "size", type := 3, offset := 5, embedded := false, tag := "", pkgPath := "cordwood/mlog", byteOffset := 40 }] : Array Field).mapM (m := Sem) fun f => do pure (f.offset, ← sizeOf f.type)).run Tryz.prog w = .ok #[(0, 1), (1, 1), (2, 1), (3, 1), (4, 1), (5, 1)] w := by kernel_rfl
theorem sz77 : (Tryz.prog.info? 77).map (·.size) = some 1 := by kernel_rfl
theorem ze79 : (Tryz.prog.info? 79).map (·.zero) = some (some (.agg #[.map none])) := by kernel_rfl
theorem pl79 (w : World) : ((#[{ name := "l", type := 77, offset := 0, embedded := false, tag := "", pkgPath := "cordwood/view", byteOffset := 0 }] : Array Field).mapM (m := Sem) fun f => do pure (f.offset, ← sizeOf f.type)).run Tryz.prog w = .ok #[(0, 1)] w := by kernel_rfl
theorem in85 : (Tryz.prog.info? 85).map (fun i => (i.zero, i.size, i.bytes)) = some (some (.agg #[.int .i64 0, .int .i64 0, .int .i64 0, .int .i64 0, .int .i64 0, .slice none 0 0, .slice none 0 0]), 7, 88) := by kernel_rfl
theorem sz85 : (Tryz.prog.info? 85).map (·.size) = some 7 := by kernel_rfl
theorem ze85 : (Tryz.prog.info? 85).map (·.zero) = some (some (.agg #[.int .i64 0, .int .i64 0, .int .i64 0, .int .i64 0, .int .i64 0, .slice none 0 0, .slice none 0 0])) := by kernel_rfl
theorem pl85 (w : World) : ((#[{ name := "state", type := 3, offset := 0, embedded := false, tag := "", pkgPath := "cordwood/view", byteOffset := 0 }, { name := "m", type := 39, offset := 1, embedded := false, tag := "", pkgPath := "cordwood/view", byteOffset := 8 }] : Array Field).mapM (m := Sem) fun f => do pure (f.offset, ← sizeOf f.type)).run Tryz.prog w = .ok #[(0, 1), (1, 6)] w := by kernel_rfl
theorem sz90 : (Tryz.prog.info? 90).map (·.size) = some 1 := by kernel_rfl
theorem ze90 : (Tryz.prog.info? 90).map (·.zero) = some (some (.pointer none)) := by kernel_rfl
theorem ze94 : (Tryz.prog.info? 94).map (·.zero) = some (some (.agg #[.int .i64 0, .slice none 0 0, .int .i64 0])) := by kernel_rfl
theorem pl94 (w : World) : ((#[{ name := "id", type := 3, offset := 0, embedded := false, tag := "", pkgPath := "cordwood/disk", byteOffset := 0 }, { name := "b", type := 23, offset := 1, embedded := false, tag := "", pkgPath := "cordwood/disk", byteOffset := 8 }, { name := "synced", type := 3, offset := 2, embedded := false, tag := "", pkgPath := "cordwood/disk", byteOffset := 32 }] : Array Field).mapM (m := Sem) fun f => do pure (f.offset, ← sizeOf f.type)).run Tryz.prog w = .ok #[(0, 1), (1, 1), (2, 1)] w := by kernel_rfl
theorem ze109 : (Tryz.prog.info? 109).map (·.zero) = some (some (.agg #[.int .i64 0, .nilIface])) := by kernel_rfl
theorem pl109 (w : World) : ((#[{ name := "Pos", type := 3, offset := 0, embedded := false, tag := "", pkgPath := "", byteOffset := 0 }, { name := "Err", type := 27, offset := 1, embedded := false, tag := "", pkgPath := "", byteOffset := 8 }] : Array Field).mapM (m := Sem) fun f => do pure (f.offset, ← sizeOf f.type)).run Tryz.prog w = .ok #[(0, 1), (1, 1)] w := by kernel_rfl
theorem sz111 : (Tryz.prog.info? 111).map (·.size) = some 1 := by kernel_rfl
theorem zEn : (Tryz.prog.info? 113).map (fun i => (i.zero, i.size, i.bytes)) = some (some (.agg #[.string ByteArray.empty, .int .i64 0, .int .u32 0]), 3, 32) := by kernel_rfl
theorem zEm : (Tryz.prog.info? 113).map (·.size) = some 3 := by kernel_rfl
theorem zEy : (Tryz.prog.info? 113).map (·.zero) = some (some (.agg #[.string ByteArray.empty, .int .i64 0, .int .u32 0])) := by kernel_rfl
theorem pl113 (w : World) : ((#[{ name := "Name", type := 9, offset := 0, embedded := false, tag := "", pkgPath := "", byteOffset := 0 }, { name := "Len", type := 3, offset := 1, embedded := false, tag := "", pkgPath := "", byteOffset := 16 }, { name := "Sum", type := 111, offset := 2, embedded := false, tag := "", pkgPath := "", byteOffset := 24 }] : Array Field).mapM (m := Sem) fun f => do pure (f.offset, ← sizeOf f.type)).run Tryz.prog w = .ok #[(0, 1), (1, 1), (2, 1)] w := by kernel_rfl
theorem in120 : (Tryz.prog.info? 120).map (fun i => (i.zero, i.size, i.bytes)) = some (some (.agg #[.string ByteArray.empty, .string ByteArray.empty, .pointer none]), 3, 40) := by kernel_rfl
theorem sz120 : (Tryz.prog.info? 120).map (·.size) = some 3 := by kernel_rfl
theorem ze120 : (Tryz.prog.info? 120).map (·.zero) = some (some (.agg #[.string ByteArray.empty, .string ByteArray.empty, .pointer none])) := by kernel_rfl
theorem pl120 (w : World) : ((#[{ name := "name", type := 9, offset := 0, embedded := false, tag := "", pkgPath := "cordwood/disk", byteOffset := 0 }, { name := "gone", type := 9, offset := 1, embedded := false, tag := "", pkgPath := "cordwood/disk", byteOffset := 16 }, { name := "f", type := 90, offset := 2, embedded := false, tag := "", pkgPath := "cordwood/disk", byteOffset := 32 }] : Array Field).mapM (m := Sem) fun f => do pure (f.offset, ← sizeOf f.type)).run Tryz.prog w = .ok #[(0, 1), (1, 1), (2, 1)] w := by kernel_rfl
theorem in141 : (Tryz.prog.info? 141).map (fun i => (i.zero, i.size, i.bytes)) = some (some (.agg #[.int .i64 0, .int .i64 0]), 2, 16) := by kernel_rfl
theorem zDx : (Tryz.prog.info? 141).map (·.size) = some 2 := by kernel_rfl
theorem ze141 : (Tryz.prog.info? 141).map (·.zero) = some (some (.agg #[.int .i64 0, .int .i64 0])) := by kernel_rfl
theorem pl141 (w : World) : ((#[{ name := "Epoch", type := 3, offset := 0, embedded := false, tag := "", pkgPath := "", byteOffset := 0 }, { name := "Start", type := 2, offset := 1, embedded := false, tag := "", pkgPath := "", byteOffset := 8 }] : Array Field).mapM (m := Sem) fun f => do pure (f.offset, ← sizeOf f.type)).run Tryz.prog w = .ok #[(0, 1), (1, 1)] w := by kernel_rfl
theorem ze171 : (Tryz.prog.info? 171).map (·.zero) = some (some (.agg #[.slice none 0 0, .int .i64 0, .nilIface])) := by kernel_rfl
theorem pl171 (w : World) : ((#[{ name := "b", type := 23, offset := 0, embedded := false, tag := "", pkgPath := "cordwood/vint", byteOffset := 0 }, { name := "at", type := 3, offset := 1, embedded := false, tag := "", pkgPath := "cordwood/vint", byteOffset := 24 }, { name := "err", type := 27, offset := 2, embedded := false, tag := "", pkgPath := "cordwood/vint", byteOffset := 32 }] : Array Field).mapM (m := Sem) fun f => do pure (f.offset, ← sizeOf f.type)).run Tryz.prog w = .ok #[(0, 1), (1, 1), (2, 1)] w := by kernel_rfl
theorem ze191 : (Tryz.prog.info? 191).map (·.zero) = some (some (.agg #[.slice none 0 0])) := by kernel_rfl
theorem pl191 (w : World) : ((#[{ name := "l", type := 36, offset := 0, embedded := false, tag := "", pkgPath := "cordwood/epoch", byteOffset := 0 }] : Array Field).mapM (m := Sem) fun f => do pure (f.offset, ← sizeOf f.type)).run Tryz.prog w = .ok #[(0, 1)] w := by kernel_rfl
theorem en8 (args : Array Value) (w : World) : (callFunc 8 args).run Tryz.prog w = .ok (.enter 8 args) w := by kernel_rfl
theorem en9 (args : Array Value) (w : World) : (callFunc 9 args).run Tryz.prog w = .ok (.enter 9 args) w := by kernel_rfl
theorem en10 (args : Array Value) (w : World) : (callFunc 10 args).run Tryz.prog w = .ok (.enter 10 args) w := by kernel_rfl
theorem en11 (args : Array Value) (w : World) : (callFunc 11 args).run Tryz.prog w = .ok (.enter 11 args) w := by kernel_rfl
theorem en12 (args : Array Value) (w : World) : (callFunc 12 args).run Tryz.prog w = .ok (.enter 12 args) w := by kernel_rfl
theorem en13 (args : Array Value) (w : World) : (callFunc 13 args).run Tryz.prog w = .ok (.enter 13 args) w := by kernel_rfl
theorem en14 (args : Array Value) (w : World) : (callFunc 14 args).run Tryz.prog w = .ok (.enter 14 args) w := by kernel_rfl
theorem en15 (args : Array Value) (w : World) : (callFunc 15 args).run Tryz.prog w = .ok (.enter 15 args) w := by kernel_rfl
theorem en16 (args : Array Value) (w : World) : (callFunc 16 args).run Tryz.prog w = .ok (.enter 16 args) w := by kernel_rfl
theorem en17 (args : Array Value) (w : World) : (callFunc 17 args).run Tryz.prog w = .ok (.enter 17 args) w := by kernel_rfl
theorem en18 (args : Array Value) (w : World) : (callFunc 18 args).run Tryz.prog w = .ok (.enter 18 args) w := by kernel_rfl
theorem en19 (args : Array Value) (w : World) : (callFunc 19 args).run Tryz.prog w = .ok (.enter 19 args) w := by kernel_rfl
theorem en20 (args : Array Value) (w : World) : (callFunc 20 args).run Tryz.prog w = .ok (.enter 20 args) w := by kernel_rfl
theorem en21 (args : Array Value) (w : World) : (callFunc 21 args).run Tryz.prog w = .ok (.enter 21 args) w := by kernel_rfl
theorem en22 (args : Array Value) (w : World) : (callFunc 22 args).run Tryz.prog w = .ok (.enter 22 args) w := by kernel_rfl
theorem en23 (args : Array Value) (w : World) : (callFunc 23 args).run Tryz.prog w = .ok (.enter 23 args) w := by kernel_rfl
theorem en24 (args : Array Value) (w : World) : (callFunc 24 args).run Tryz.prog w = .ok (.enter 24 args) w := by kernel_rfl
theorem en25 (args : Array Value) (w : World) : (callFunc 25 args).run Tryz.prog w = .ok (.enter 25 args) w := by kernel_rfl
theorem en26 (args : Array Value) (w : World) : (callFunc 26 args).run Tryz.prog w = .ok (.enter 26 args) w := by kernel_rfl
theorem en27 (args : Array Value) (w : World) : (callFunc 27 args).run Tryz.prog w = .ok (.enter 27 args) w := by kernel_rfl
theorem en28 (args : Array Value) (w : World) : (callFunc 28 args).run Tryz.prog w = .ok (.enter 28 args) w := by kernel_rfl
theorem en29 (args : Array Value) (w : World) : (callFunc 29 args).run Tryz.prog w = .ok (.enter 29 args) w := by kernel_rfl
theorem en33 (args : Array Value) (w : World) : (callFunc 33 args).run Tryz.prog w = .ok (.enter 33 args) w := by kernel_rfl
theorem en34 (args : Array Value) (w : World) : (callFunc 34 args).run Tryz.prog w = .ok (.enter 34 args) w := by kernel_rfl
theorem en35 (args : Array Value) (w : World) : (callFunc 35 args).run Tryz.prog w = .ok (.enter 35 args) w := by kernel_rfl
theorem en36 (args : Array Value) (w : World) : (callFunc 36 args).run Tryz.prog w = .ok (.enter 36 args) w := by kernel_rfl
theorem en37 (args : Array Value) (w : World) : (callFunc 37 args).run Tryz.prog w = .ok (.enter 37 args) w := by kernel_rfl
theorem en38 (args : Array Value) (w : World) : (callFunc 38 args).run Tryz.prog w = .ok (.enter 38 args) w := by kernel_rfl
theorem en39 (args : Array Value) (w : World) : (callFunc 39 args).run Tryz.prog w = .ok (.enter 39 args) w := by kernel_rfl
theorem en40 (args : Array Value) (w : World) : (callFunc 40 args).run Tryz.prog w = .ok (.enter 40 args) w := by kernel_rfl
theorem en41 (args : Array Value) (w : World) : (callFunc 41 args).run Tryz.prog w = .ok (.enter 41 args) w := by kernel_rfl
theorem en42 (args : Array Value) (w : World) : (callFunc 42 args).run Tryz.prog w = .ok (.enter 42 args) w := by kernel_rfl
theorem en43 (args : Array Value) (w : World) : (callFunc 43 args).run Tryz.prog w = .ok (.enter 43 args) w := by kernel_rfl
theorem en44 (args : Array Value) (w : World) : (callFunc 44 args).run Tryz.prog w = .ok (.enter 44 args) w := by kernel_rfl
theorem en45 (args : Array Value) (w : World) : (callFunc 45 args).run Tryz.prog w = .ok (.enter 45 args) w := by kernel_rfl
theorem en46 (args : Array Value) (w : World) : (callFunc 46 args).run Tryz.prog w = .ok (.enter 46 args) w := by kernel_rfl
theorem en47 (args : Array Value) (w : World) : (callFunc 47 args).run Tryz.prog w = .ok (.enter 47 args) w := by kernel_rfl
theorem en48 (args : Array Value) (w : World) : (callFunc 48 args).run Tryz.prog w = .ok (.enter 48 args) w := by kernel_rfl
theorem en50 (args : Array Value) (w : World) : (callFunc 50 args).run Tryz.prog w = .ok (.enter 50 args) w := by kernel_rfl
theorem en51 (args : Array Value) (w : World) : (callFunc 51 args).run Tryz.prog w = .ok (.enter 51 args) w := by kernel_rfl
theorem en52 (args : Array Value) (w : World) : (callFunc 52 args).run Tryz.prog w = .ok (.enter 52 args) w := by kernel_rfl
theorem en53 (args : Array Value) (w : World) : (callFunc 53 args).run Tryz.prog w = .ok (.enter 53 args) w := by kernel_rfl
theorem en54 (args : Array Value) (w : World) : (callFunc 54 args).run Tryz.prog w = .ok (.enter 54 args) w := by kernel_rfl
theorem en55 (args : Array Value) (w : World) : (callFunc 55 args).run Tryz.prog w = .ok (.enter 55 args) w := by kernel_rfl
theorem en56 (args : Array Value) (w : World) : (callFunc 56 args).run Tryz.prog w = .ok (.enter 56 args) w := by kernel_rfl
theorem en57 (args : Array Value) (w : World) : (callFunc 57 args).run Tryz.prog w = .ok (.enter 57 args) w := by kernel_rfl
theorem en58 (args : Array Value) (w : World) : (callFunc 58 args).run Tryz.prog w = .ok (.enter 58 args) w := by kernel_rfl
theorem en59 (args : Array Value) (w : World) : (callFunc 59 args).run Tryz.prog w = .ok (.enter 59 args) w := by kernel_rfl
theorem en60 (args : Array Value) (w : World) : (callFunc 60 args).run Tryz.prog w = .ok (.enter 60 args) w := by kernel_rfl
theorem en62 (args : Array Value) (w : World) : (callFunc 62 args).run Tryz.prog w = .ok (.enter 62 args) w := by kernel_rfl
theorem en66 (args : Array Value) (w : World) : (callFunc 66 args).run Tryz.prog w = .ok (.enter 66 args) w := by kernel_rfl
theorem en67 (args : Array Value) (w : World) : (callFunc 67 args).run Tryz.prog w = .ok (.enter 67 args) w := by kernel_rfl
theorem en68 (args : Array Value) (w : World) : (callFunc 68 args).run Tryz.prog w = .ok (.enter 68 args) w := by kernel_rfl
theorem en69 (args : Array Value) (w : World) : (callFunc 69 args).run Tryz.prog w = .ok (.enter 69 args) w := by kernel_rfl
theorem en70 (args : Array Value) (w : World) : (callFunc 70 args).run Tryz.prog w = .ok (.enter 70 args) w := by kernel_rfl
theorem en71 (args : Array Value) (w : World) : (callFunc 71 args).run Tryz.prog w = .ok (.enter 71 args) w := by kernel_rfl
theorem en72 (args : Array Value) (w : World) : (callFunc 72 args).run Tryz.prog w = .ok (.enter 72 args) w := by kernel_rfl
theorem en73 (args : Array Value) (w : World) : (callFunc 73 args).run Tryz.prog w = .ok (.enter 73 args) w := by kernel_rfl
theorem en74 (args : Array Value) (w : World) : (callFunc 74 args).run Tryz.prog w = .ok (.enter 74 args) w := by kernel_rfl
theorem en75 (args : Array Value) (w : World) : (callFunc 75 args).run Tryz.prog w = .ok (.enter 75 args) w := by kernel_rfl
theorem en76 (args : Array Value) (w : World) : (callFunc 76 args).run Tryz.prog w = .ok (.enter 76 args) w := by kernel_rfl
theorem en77 (args : Array Value) (w : World) : (callFunc 77 args).run Tryz.prog w = .ok (.enter 77 args) w := by kernel_rfl
theorem en78 (args : Array Value) (w : World) : (callFunc 78 args).run Tryz.prog w = .ok (.enter 78 args) w := by kernel_rfl
theorem en79 (args : Array Value) (w : World) : (callFunc 79 args).run Tryz.prog w = .ok (.enter 79 args) w := by kernel_rfl
theorem en80 (args : Array Value) (w : World) : (callFunc 80 args).run Tryz.prog w = .ok (.enter 80 args) w := by kernel_rfl
theorem en81 (args : Array Value) (w : World) : (callFunc 81 args).run Tryz.prog w = .ok (.enter 81 args) w := by kernel_rfl
theorem en82 (args : Array Value) (w : World) : (callFunc 82 args).run Tryz.prog w = .ok (.enter 82 args) w := by kernel_rfl
theorem en83 (args : Array Value) (w : World) : (callFunc 83 args).run Tryz.prog w = .ok (.enter 83 args) w := by kernel_rfl
theorem en84 (args : Array Value) (w : World) : (callFunc 84 args).run Tryz.prog w = .ok (.enter 84 args) w := by kernel_rfl
theorem en85 (args : Array Value) (w : World) : (callFunc 85 args).run Tryz.prog w = .ok (.enter 85 args) w := by kernel_rfl
theorem en86 (args : Array Value) (w : World) : (callFunc 86 args).run Tryz.prog w = .ok (.enter 86 args) w := by kernel_rfl
theorem en87 (args : Array Value) (w : World) : (callFunc 87 args).run Tryz.prog w = .ok (.enter 87 args) w := by kernel_rfl
theorem en88 (args : Array Value) (w : World) : (callFunc 88 args).run Tryz.prog w = .ok (.enter 88 args) w := by kernel_rfl
theorem en89 (args : Array Value) (w : World) : (callFunc 89 args).run Tryz.prog w = .ok (.enter 89 args) w := by kernel_rfl
theorem en90 (args : Array Value) (w : World) : (callFunc 90 args).run Tryz.prog w = .ok (.enter 90 args) w := by kernel_rfl
theorem en91 (args : Array Value) (w : World) : (callFunc 91 args).run Tryz.prog w = .ok (.enter 91 args) w := by kernel_rfl
theorem en92 (args : Array Value) (w : World) : (callFunc 92 args).run Tryz.prog w = .ok (.enter 92 args) w := by kernel_rfl
theorem en93 (args : Array Value) (w : World) : (callFunc 93 args).run Tryz.prog w = .ok (.enter 93 args) w := by kernel_rfl
theorem en94 (args : Array Value) (w : World) : (callFunc 94 args).run Tryz.prog w = .ok (.enter 94 args) w := by kernel_rfl
theorem en95 (args : Array Value) (w : World) : (callFunc 95 args).run Tryz.prog w = .ok (.enter 95 args) w := by kernel_rfl
theorem en96 (args : Array Value) (w : World) : (callFunc 96 args).run Tryz.prog w = .ok (.enter 96 args) w := by kernel_rfl
theorem en97 (args : Array Value) (w : World) : (callFunc 97 args).run Tryz.prog w = .ok (.enter 97 args) w := by kernel_rfl
theorem en98 (args : Array Value) (w : World) : (callFunc 98 args).run Tryz.prog w = .ok (.enter 98 args) w := by kernel_rfl
theorem en108 (args : Array Value) (w : World) : (callFunc 108 args).run Tryz.prog w = .ok (.enter 108 args) w := by kernel_rfl
theorem en109 (args : Array Value) (w : World) : (callFunc 109 args).run Tryz.prog w = .ok (.enter 109 args) w := by kernel_rfl
theorem en110 (args : Array Value) (w : World) : (callFunc 110 args).run Tryz.prog w = .ok (.enter 110 args) w := by kernel_rfl
theorem en111 (args : Array Value) (w : World) : (callFunc 111 args).run Tryz.prog w = .ok (.enter 111 args) w := by kernel_rfl
theorem en112 (args : Array Value) (w : World) : (callFunc 112 args).run Tryz.prog w = .ok (.enter 112 args) w := by kernel_rfl
theorem en113 (args : Array Value) (w : World) : (callFunc 113 args).run Tryz.prog w = .ok (.enter 113 args) w := by kernel_rfl
theorem en114 (args : Array Value) (w : World) : (callFunc 114 args).run Tryz.prog w = .ok (.enter 114 args) w := by kernel_rfl
theorem en117 (args : Array Value) (w : World) : (callFunc 117 args).run Tryz.prog w = .ok (.enter 117 args) w := by kernel_rfl
theorem en118 (args : Array Value) (w : World) : (callFunc 118 args).run Tryz.prog w = .ok (.enter 118 args) w := by kernel_rfl
theorem en119 (args : Array Value) (w : World) : (callFunc 119 args).run Tryz.prog w = .ok (.enter 119 args) w := by kernel_rfl
theorem en120 (args : Array Value) (w : World) : (callFunc 120 args).run Tryz.prog w = .ok (.enter 120 args) w := by kernel_rfl
theorem en121 (args : Array Value) (w : World) : (callFunc 121 args).run Tryz.prog w = .ok (.enter 121 args) w := by kernel_rfl
theorem en122 (args : Array Value) (w : World) : (callFunc 122 args).run Tryz.prog w = .ok (.enter 122 args) w := by kernel_rfl
theorem en123 (args : Array Value) (w : World) : (callFunc 123 args).run Tryz.prog w = .ok (.enter 123 args) w := by kernel_rfl
theorem en124 (args : Array Value) (w : World) : (callFunc 124 args).run Tryz.prog w = .ok (.enter 124 args) w := by kernel_rfl
theorem en125 (args : Array Value) (w : World) : (callFunc 125 args).run Tryz.prog w = .ok (.enter 125 args) w := by kernel_rfl
theorem en126 (args : Array Value) (w : World) : (callFunc 126 args).run Tryz.prog w = .ok (.enter 126 args) w := by kernel_rfl
theorem en127 (args : Array Value) (w : World) : (callFunc 127 args).run Tryz.prog w = .ok (.enter 127 args) w := by kernel_rfl
theorem en143 (args : Array Value) (w : World) : (callFunc 143 args).run Tryz.prog w = .ok (.enter 143 args) w := by kernel_rfl
theorem en144 (args : Array Value) (w : World) : (callFunc 144 args).run Tryz.prog w = .ok (.enter 144 args) w := by kernel_rfl
theorem en145 (args : Array Value) (w : World) : (callFunc 145 args).run Tryz.prog w = .ok (.enter 145 args) w := by kernel_rfl
theorem en146 (args : Array Value) (w : World) : (callFunc 146 args).run Tryz.prog w = .ok (.enter 146 args) w := by kernel_rfl
theorem en147 (args : Array Value) (w : World) : (callFunc 147 args).run Tryz.prog w = .ok (.enter 147 args) w := by kernel_rfl
theorem en149 (args : Array Value) (w : World) : (callFunc 149 args).run Tryz.prog w = .ok (.enter 149 args) w := by kernel_rfl
theorem en150 (args : Array Value) (w : World) : (callFunc 150 args).run Tryz.prog w = .ok (.enter 150 args) w := by kernel_rfl
theorem en151 (args : Array Value) (w : World) : (callFunc 151 args).run Tryz.prog w = .ok (.enter 151 args) w := by kernel_rfl
theorem en153 (args : Array Value) (w : World) : (callFunc 153 args).run Tryz.prog w = .ok (.enter 153 args) w := by kernel_rfl
theorem en154 (args : Array Value) (w : World) : (callFunc 154 args).run Tryz.prog w = .ok (.enter 154 args) w := by kernel_rfl
theorem en171 (args : Array Value) (w : World) : (callFunc 171 args).run Tryz.prog w = .ok (.enter 171 args) w := by kernel_rfl
theorem en172 (args : Array Value) (w : World) : (callFunc 172 args).run Tryz.prog w = .ok (.enter 172 args) w := by kernel_rfl
theorem zBt : Tryz.prog.follows .mixedOrders = true := by kernel_rfl
end Go.Proofs.YtdkgdjnbpjjfmaaGreatDoor
namespace Go.Proofs.YtdkgdjnbpjjfmaaGreatDoor
set_option linter.all false
open Go.RowKit
attribute [local irreducible] zAo
variable {g w : World} {L : List HP} {ad : Nat → Addr}

/-- A statement's walk, as its row wants it. -/
theorem law_of {f : FuncId} {args : Array Value} (h : Calls Tryz.prog f args w (Ret fun v w' => v = .bool true ∧ Mem w w' [])) : Calls Tryz.prog f args w (BoolNew true w) :=
  h.mono fun _ _ ⟨v, h1, h2, h3⟩ => ⟨by rw [h1, h2], h3.below0⟩
theorem Came.bytes {a : Option Addr} {n c : Nat} {l : List UInt8} (h : seqV w (.slice a n c) (zAl l)) (hb : ∀ b, blk (.slice a n c) = some b → b < w.heap.size) : Came w (.slice a n c) (zAl l) ∧ n = l.length := ⟨⟨h, hb⟩, by have := h.len; simpa [zAl] using this.symm⟩
theorem Came.ints {a : Option Addr} {n c : Nat} {l : List Int} (h : seqV w (.slice a n c) (intsL l)) (hb : ∀ b, blk (.slice a n c) = some b → b < w.heap.size) : Came w (.slice a n c) (intsL l) ∧ n = l.length := ⟨⟨h, hb⟩, by have := h.len; simpa [intsL] using this.symm⟩
theorem valid_sl (hs : Mem g w L) (s : ByteArray) : Calls Tryz.prog 74 #[.string s] w (Ret fun v w' => v = .bool (zC1 s.data.toList) ∧ Mem g w' L) := hs.callsE (valid_any s w)
/-- A new slice. -/
theorem newSeq_sl {f : FuncId} {args : Array Value} {l : List Value} (hs : Mem g w L) (h : Calls Tryz.prog f args w (NewSeq w l)) : Calls Tryz.prog f args w (Ret fun v w' => ∃ a c, v = .slice a l.length c ∧ Mem g w' (own (.slice a l.length c) l :: L)) :=
  h.mono fun _ w' ⟨v, h1, h2, h3, h4⟩ => by
    obtain ⟨a, n, c, rfl, hn, hr⟩ := id h2
    subst hn
    exact ⟨_, h1, a, c, rfl, hs.add (F' := fun b => blk (.slice a l.length c) = some b) ⟨h2, fun _ => Iff.rfl⟩ (fun b hb => (h4 b hb).1) (Keeps.of_below h3 _)⟩
theorem zFe (hs : Mem g w L) {v : Value} {l : List UInt8} (h : Rd g L v (zAl l)) (hl : l.length ≤ 1073741824) : Calls Tryz.prog 46 #[v] w (Ret fun v w' => ∃ a c, v = .slice a (zAl l).length c ∧ Mem g w' (own (.slice a (zAl l).length c) (zAl l) :: L)) :=
  newSeq_sl hs (clone_bytes v _ w (h.seq hs) (zBn l) (by simpa [zAl] using hl))
theorem Rd.subB {a : Option Addr} {m c lo hi : Nat} {l : List UInt8} (h : Rd g L (.slice a m c) (zAl l)) (h1 : lo ≤ hi) (h2 : hi ≤ m) : Rd g L (subS a c lo hi) (zAl ((l.take hi).drop lo)) := by
  have := h.sub h1 h2
  simpa [zAl] using this
theorem zAr (b : List UInt8) : (zAl b).length = b.length := by simp [zAl]

theorem u8v_inj {a b : UInt8} (h : ((a.toNat : Nat) : Int) = ((b.toNat : Nat) : Int)) : a = b := UInt8.toNat_inj.1 (by omega)
theorem zEj {l : List UInt8} {k : Nat} {x : UInt8} (h : l[k]? = some x) : (zAl l)[k]? = some (.int .u8 (x.toNat : Nat)) := by simp [zAl, u8v, h]
theorem intsL_at {l : List Int} {k : Nat} {x : Int} (h : l[k]? = some x) : (intsL l)[k]? = some (.int .i64 x) := by simp [intsL, h]
theorem intsL_len (l : List Int) : (intsL l).length = l.length := by simp [intsL]
theorem Mem.rdOwn {v : Value} {l : List Value} (hs : Mem g w L) (i : Nat) (hi : L[i]? = some (own v l)) : Rd g L v l := Rd.own i hi
theorem zC8 (l m : List UInt8) : zAl (l ++ m) = zAl l ++ zAl m := by simp [zAl]
end Go.Proofs.YtdkgdjnbpjjfmaaGreatDoor
namespace Go.Proofs.YtdkgdjnbpjjfmaaGreatDoor
set_option linter.all false
open Go.RowKit Go.ChangeShapes

def codeName : Nat → String
  | 101 => "cordwood/api.ErrEnd"
  | 102 => "cordwood/api.ErrSum"
  | 103 => "cordwood/api.ErrShape"
  | 104 => "cordwood/api.ErrMany"
  | 105 => "cordwood/api.ErrRange"
  | 106 => "cordwood/api.ErrName"
  | 107 => "cordwood/api.ErrNone"
  | 108 => "cordwood/api.ErrThere"
  | 109 => "cordwood/api.ErrFull"
  | 110 => "cordwood/api.ErrCrash"
  | 111 => "cordwood/api.ErrStore"
  | 112 => "cordwood/api.ErrKind"
  | 113 => "cordwood/api.ErrState"
  | 114 => "cordwood/api.ErrFenced"
  | 115 => "cordwood/api.ErrOutside"
  | 116 => "cordwood/api.ErrUnavail"
  | 117 => "cordwood/api.ErrWord"
  | 118 => "cordwood/api.ErrNumber"
  | _ => "cordwood/api.ErrClosed"

/-- The datum of a sentinel. -/
def isSent : DataW Unit → Bool
  | .iface n (.ptr (.agg [.lit (.string _)])) => n == "*errors.errorString"
  | _ => false
theorem isSent_open {d : DataW Unit} (h : isSent d = true) : ∃ text, d = .iface "*errors.errorString" (.ptr (.agg [.lit (.string text)])) := by
  unfold isSent at h
  split at h
  · obtain rfl := eq_of_beq h; exact ⟨_, rfl⟩
  · cases h

theorem rowE (u : TypeId) (h : Tryz.prog.typeName? 3 u = some "*errors.errorString") : u = 246 :=
  have star : "*" ++ "errors.errorString" = "*errors.errorString" := by decide
  typeName_ptr_named (nm := "errors.errorString") (by rw [star]; kernel_rfl) (by kernel_rfl) (by decide) u (by rw [star]; exact h)

/-- What one listed sentinel says. -/
def SentAt (W : World) (n : String) (a : Addr) : Prop :=
  ∃ g, Tryz.prog.globalNamed n = some g ∧ W.cell? ⟨g, 0, none⟩ = some (.iface 246 (.pointer (some a))) ∧ ∃ s, W.cell? a = some (.string s)

theorem errF : ∃ f : Field, Tryz.prog.underlying 263 = some (.struct #[f]) ∧ f.type = 9 ∧ f.offset = 0 := ⟨_, uz263, rfl, rfl⟩
theorem cellsE : Tryz.prog.cellsOf 263 = 1 := by kernel_rfl
theorem cellsS : Tryz.prog.cellsOf 9 = 1 := by kernel_rfl

set_option maxRecDepth 100000 in
theorem sents {W : World} : ∀ {l : List (String × DataW Unit)} {ps : List MemPlace}, DataW.LaidVars Tryz.prog W l ps → (∀ x ∈ l, isSent x.2 = true) →
    (∀ x ∈ l, ∀ g, Tryz.prog.globalNamed x.1 = some g → (Tryz.prog.globals[g]?).map (·.type) = some 27) →
    (∀ b off, MemPlace.cell b off ∈ ps → (∃ c t, W.heap[b]? = some (.cells c t (0, 0))) ∧ ∀ u v, W.cell? ⟨b, off, none⟩ = some (.iface u v) → Value.okWide Tryz.prog W .any 0 u v) → ps.Nodup →
    ∃ ads : List Addr, ads.length = l.length ∧ (∀ i (h : i < l.length) (h' : i < ads.length), SentAt W l[i].1 ads[i]) ∧ ads.Nodup ∧ (∀ a ∈ ads, MemPlace.cell a.block a.off ∈ ps)
  | [], ps, h, _, _, _, _ => ⟨[], rfl, (fun i h => absurd h (by simp)), List.nodup_nil, (fun a h => by cases h)⟩
  | (n, d) :: r, ps, h, hs, hg, hrows, hnd => by
    obtain ⟨g0, t0, cs0, f0, p0, q0, hg0, ht0, hv0, hd0, hr, rfl⟩ := h
    obtain rfl := Option.some.inj ((hg (n, d) List.mem_cons_self g0 hg0).symm.trans ht0)
    obtain ⟨text, rfl⟩ := isSent_open (hs (n, d) List.mem_cons_self)
    obtain ⟨l0⟩ := cs0
    obtain ⟨ef, hef, hft, hfo⟩ := errF
    have ok0 : ∀ u v, l0 = [.iface u v] → Value.okWide Tryz.prog W .any 0 u v := fun u v e => by
      subst e
      exact (hrows g0 0 (by simp [MemPlace.row])).2 u v (by simpa using World.var?_cell hg0 hv0 0)
    obtain ⟨a0, s0, rfl, hc0, hs0, hz0, rfl⟩ := errorString_of_trod zCv rowE uz246 hef hft hfo uz9 cellsE cellsS hd0 ok0
    obtain ⟨ads, hlen, hat, hnod, hin⟩ := sents hr (fun x hx => hs x (.tail _ hx)) (fun x hx => hg x (.tail _ hx)) (fun b off hm => hrows b off (List.mem_append_right _ hm)) (hnd.sublist (List.sublist_append_right _ _))
    refine ⟨a0 :: ads, by simp [hlen], fun i h h' => ?_, ?_, fun a ha => ?_⟩
    · cases i with
      | zero => exact ⟨g0, hg0, by simpa using World.var?_cell hg0 hv0 0, s0, hc0⟩
      | succ i => exact hat i (by simpa using h) (by simpa using h')
    · refine List.nodup_cons.2 ⟨fun hm => ?_, hnod⟩
      have h1 := hin a0 hm
      have h2 : MemPlace.cell a0.block a0.off ∈ MemPlace.row ⟨g0, 0, none⟩ 1 ++ MemPlace.row a0 1 := by simp [MemPlace.row]
      exact (List.nodup_append.1 hnd).2.2 _ h2 _ h1 rfl
    · rcases List.mem_cons.1 ha with rfl | ha
      · simp [MemPlace.row]
      · exact List.mem_append_right _ (hin a ha)

/-- The codes' sentinels. -/
theorem errs_of_laid {L : List Nat} {l : List (String × DataW Unit)} {W : World} (h : laidMetH Tryz.prog l W)
    (hl : l.map (·.1) = L.map codeName) (hs : l.all (fun x => isSent x.2) = true) (hL : L.all (fun c => decide (c ∈ allCodes)) = true) (hnd : decide L.Nodup = true) :
    ∃ ad, Errs L ad W.heap.size W := by
  have hs' : ∀ x ∈ l, isSent x.2 = true := List.all_eq_true.1 hs
  have hL' : ∀ c ∈ L, c ∈ allCodes := fun c hc => of_decide_eq_true (List.all_eq_true.1 hL c hc)
  have hnd' : L.Nodup := of_decide_eq_true hnd
  have hplain : laidMetH Tryz.prog l W = laidMet Tryz.prog l W := MakeChecks.laidMetH_plain _ _ _ (List.all_eq_true.2 fun x hx => by
    obtain ⟨t, e⟩ := isSent_open (hs' x hx)
    rw [e]; rfl)
  rw [hplain] at h
  obtain ⟨ps, hv, hn, hrows⟩ := h
  have gl : ∀ c ∈ allCodes, Tryz.prog.globalNamed (codeName c) = some (gidx c) ∧ (Tryz.prog.globals[gidx c]?).map (·.type) = some 27 := by
    intro c hc
    have hb : ∀ c, decide (Tryz.prog.globalNamed (codeName c) = some (gidx c)) = true → decide ((Tryz.prog.globals[gidx c]?).map (·.type) = some 27) = true → Tryz.prog.globalNamed (codeName c) = some (gidx c) ∧ (Tryz.prog.globals[gidx c]?).map (·.type) = some 27 := fun c h1 h2 => ⟨of_decide_eq_true h1, of_decide_eq_true h2⟩
    simp only [allCodes, List.mem_cons, List.not_mem_nil, or_false] at hc
    rcases hc with rfl | rfl | rfl | rfl | rfl | rfl | rfl | rfl | rfl | rfl | rfl | rfl | rfl | rfl | rfl | rfl | rfl | rfl | rfl <;> exact hb _ (by kernel_rfl) (by kernel_rfl)
  have hlen : l.length = L.length := by simpa using congrArg List.length hl
  have hname : ∀ i (h : i < l.length) (h' : i < L.length), l[i].1 = codeName L[i] := fun i h h' => by
    have := congrArg (·[i]?) hl
    simpa [h, h'] using this
  obtain ⟨ads, hal, hat, hanod, hin⟩ := sents hv hs' (fun x hx g hg => by
    obtain ⟨i, hi, rfl⟩ := List.getElem_of_mem hx
    have hi' : i < L.length := by omega
    rw [hname i hi hi'] at hg
    have := gl L[i] (hL' _ (List.getElem_mem hi'))
    obtain rfl := Option.some.inj (this.1.symm.trans hg)
    exact this.2) hrows hn
  have hidx : ∀ c ∈ L, ∃ i, ∃ (h : i < L.length) (h' : i < ads.length), L[i] = c ∧ L.idxOf c = i := fun c hc => by
    have h := List.idxOf_lt_length_of_mem hc
    exact ⟨L.idxOf c, h, by omega, List.getElem_idxOf h, rfl⟩
  refine ⟨fun c => ads.getD (L.idxOf c) default, ⟨fun c hc e => ?_, fun c hc => ?_, fun c hc => ?_, fun c hc d hd e => ?_, fun c hc => ?_⟩⟩
  · subst e; have := hL' 0 hc; revert this; decide
  all_goals obtain ⟨i, hi, hi', hci, hx⟩ := hidx c hc
  · obtain ⟨g, hg, hcell, _⟩ := hat i (by omega) hi'
    rw [hname i (by omega) hi, hci, (gl c (hL' c hc)).1] at hg
    obtain rfl := Option.some.inj hg
    have hp : c ≠ 0 := fun e => by subst e; have := hL' 0 hc; revert this; decide
    rw [hcell]
    simp only [zAo, hp, if_false]
    rw [hx, List.getD_eq_getElem?_getD, List.getElem?_eq_getElem hi']
    rfl
  · obtain ⟨⟨cs, t, hb⟩, _⟩ := hrows _ _ (hin ads[i] (List.getElem_mem hi'))
    refine ⟨cs, t, ?_⟩
    rw [hx, List.getD_eq_getElem?_getD, List.getElem?_eq_getElem hi']
    exact hb
  · obtain ⟨j, hj, hj', hdj, hy⟩ := hidx d hd
    simp only [hx, hy, List.getD_eq_getElem?_getD, List.getElem?_eq_getElem hi', List.getElem?_eq_getElem hj', Option.getD_some] at e
    have := (List.getElem_inj hanod).1 e
    subst this
    exact hci.symm.trans hdj
  · obtain ⟨g, hg, hcell, s, hs⟩ := hat i (by omega) hi'
    rw [hname i (by omega) hi, hci, (gl c (hL' c hc)).1] at hg
    obtain rfl := Option.some.inj hg
    have hlt : ∀ {a : Addr} {v : Value}, W.cell? a = some v → a.block < W.heap.size := fun {a v} h => by
      rcases Nat.lt_or_ge a.block W.heap.size with h' | h'
      · exact h'
      · simp [World.cell?, Array.getElem?_eq_none h'] at h
    refine ⟨hlt hcell, ?_⟩
    rw [hx, List.getD_eq_getElem?_getD, List.getElem?_eq_getElem hi']
    exact hlt hs

/-! ### slices that came in -/
theorem seq_of_cells {W : World} {x : Addr} {len cap : Nat} {f : Nat → Value} (hl : len ≤ cap) (h : ∀ i, i < cap → W.cell? (x.add i) = some (f i)) :
    seqV W (.slice (some x) len cap) ((List.range len).map f) := by
  refine ⟨_, _, _, rfl, by simp, hl, (fun h => by cases h), ?_⟩
  rcases Nat.eq_zero_or_pos cap with h0 | h0
  · exact .inl h0
  right
  obtain ⟨b, off, sp⟩ := x
  have h1 := h 0 h0
  have hsp : sp = none ∧ ∃ cs E fz, W.heap[b]? = some (.cells cs E fz) := by
    simp only [World.cell?, Addr.add, if_true] at h1
    split at h1
    · rename_i c t f' hh
      cases sp with
      | none => exact ⟨rfl, c, t, f', hh⟩
      | some q => simp at h1
    · cases h1
  obtain ⟨rfl, cs, E, fz, hb⟩ := hsp
  have hc : ∀ i, i < cap → cs[off + i]? = some (f i) := fun i hi => by
    have := h i hi
    simp only [World.cell?, Addr.add_lit] at this
    rw [hb] at this
    simpa using this
  refine ⟨b, off, cs, E, fz, rfl, hb, ?_, fun i hi => ?_⟩
  · have := (Array.getElem?_eq_some_iff.1 (hc (cap - 1) (by omega))).1
    omega
  · simp only [List.length_map, List.length_range] at hi
    rw [hc i (by omega)]
    simp [hi]

/-- A slice of integers that came in: nil; or a row of 'cap' cells that hold the numbers 'zs', each of its kind. -/
def IsRow (k : IntKind) (w : World) (a : Option Addr) (len cap : Nat) (zs : List Int) : Prop :=
  (a = none ∧ len = 0 ∧ cap = 0 ∧ zs = []) ∨
  ∃ x, a = some x ∧ len ≤ cap ∧ cap ≤ maxLen ∧ zs.length = cap ∧ (∀ i, i < zs.length → w.cell? (x.add i) = some (.int k (zs.getD i 0))) ∧ ∀ n ∈ zs, (Lit.int k n).wf = true
theorem IsRow.len {k : IntKind} {w : World} {a : Option Addr} {len cap : Nat} {zs : List Int} (h : IsRow k w a len cap zs) : len ≤ cap ∧ cap ≤ maxLen ∧ (zs.take len).length = len := by
  rcases h with ⟨rfl, rfl, rfl, rfl⟩ | ⟨x, rfl, h1, h2, h3, _, _⟩
  · exact ⟨Nat.le_refl _, Nat.zero_le _, rfl⟩
  · exact ⟨h1, h2, by simp; omega⟩
theorem IsRow.seq {k : IntKind} {w : World} {a : Option Addr} {len cap : Nat} {zs : List Int} (h : IsRow k w a len cap zs) : seqV w (.slice a len cap) ((zs.take len).map (Value.int k)) := by
  rcases h with ⟨rfl, rfl, rfl, rfl⟩ | ⟨x, rfl, h1, h2, h3, h4, _⟩
  · exact seqV.nil w
  · have := seq_of_cells (W := w) (x := x) (f := fun i => .int k (zs.getD i 0)) h1 (fun i hi => h4 i (by omega))
    have e : (List.range len).map (fun i => Value.int k (zs.getD i 0)) = (zs.take len).map (Value.int k) := by
      apply List.ext_getElem?
      intro i
      simp only [List.getElem?_map, List.getElem?_range, List.getElem?_take]
      by_cases hi : i < len
      · have hz : i < zs.length := by omega
        simp [hi, List.getElem?_eq_getElem hz]
      · simp [hi]
    rwa [e] at this
theorem IsRow.wf {k : IntKind} {w : World} {a : Option Addr} {len cap : Nat} {zs : List Int} (h : IsRow k w a len cap zs) : ∀ z ∈ zs.take len, (Lit.int k z).wf = true := by
  rcases h with ⟨rfl, rfl, rfl, rfl⟩ | ⟨x, rfl, _, _, _, _, h5⟩
  · intro z hz; cases hz
  · intro z hz; exact h5 z (List.mem_of_mem_take hz)
theorem IsRow.ints {w : World} {a : Option Addr} {len cap : Nat} {zs : List Int} (h : IsRow .i64 w a len cap zs) : seqV w (.slice a len cap) (intsL (zs.take len)) := h.seq
theorem IsRow.bytes {w : World} {a : Option Addr} {len cap : Nat} {zs : List Int} (h : IsRow .u8 w a len cap zs) : seqV w (.slice a len cap) (zAl ((zs.take len).map fun z => UInt8.ofNat z.toNat)) := by
  have h1 := h.seq
  have h2 := h.wf
  have e : (zs.take len).map (Value.int .u8) = zAl ((zs.take len).map fun z => UInt8.ofNat z.toNat) := by
    simp only [zAl, List.map_map]
    refine List.map_congr_left fun z hz => ?_
    have := h2 z hz
    simp only [Lit.wf, IntKind.min, IntKind.max, Bool.and_eq_true, decide_eq_true_eq] at this
    have h0 : 0 ≤ z ∧ z < 256 := by revert this; simp [IntKind.signed, IntKind.bits]; omega
    simp only [Function.comp, u8v, Value.int.injEq, true_and]
    have : (UInt8.ofNat z.toNat).toNat = z.toNat := by simp; omega
    rw [this]; omega
  rwa [e] at h1
set_option maxRecDepth 100000 in
theorem blk_of_ok {W : World} {base : Nat} {t e : TypeId} {a : Option Addr} {n c : Nat} (ht : Tryz.prog.underlying t = some (.slice e)) (h : Value.okWide Tryz.prog W .any base t (.slice a n c)) : ∀ b, blk (.slice a n c) = some b → b < W.heap.size := by
  intro b hb
  cases a with
  | none => cases hb
  | some x =>
    simp only [blk, Option.some.injEq] at hb
    subst hb
    simp only [Value.okWide, ht, Cell.okWide, Cell.ok] at h
    obtain ⟨_, _, _, _, row, cells, hs, _⟩ := h
    rcases Nat.lt_or_ge x.block W.heap.size with h' | h'
    · exact h'
    · simp [World.shape?, Array.getElem?_eq_none h'] at hs
end Go.Proofs.YtdkgdjnbpjjfmaaGreatDoor
namespace Go.Proofs.YtdkgdjnbpjjfmaaGreatDoor
set_option linter.all false
open Go.RowKit
attribute [local irreducible] zAo
variable {g w : World} {L M : List HP} {ad : Nat → Addr}

/-- It reads so in every world that has what lies in the ground. -/
def Came0 (g : World) (v : Value) (l : List Value) : Prop := ∀ w' : World, (∀ b, b < g.heap.size → w'.heap[b]? = g.heap[b]?) → seqV w' v l
theorem Came0.seq {v : Value} {l : List Value} (h : Came0 g v l) (hs : Mem g w L) : seqV w v l := h w hs.old
theorem Came.zero {v : Value} {l : List Value} (h : Came g v l) : Came0 g v l := fun w' k => h.1.heap fun b hb => k b (h.2 b hb)
theorem Came0.rd {v : Value} {l : List Value} (h : Came0 g v l) (L : List HP) : Rd g L v l := fun w hs => h w hs.old
/-! ### slices of slices of bytes -/
/-- An element: where it lies, its room, its bytes. -/
abbrev El := Option Addr × Nat × List UInt8
def elV (x : El) : Value := .slice x.1 x.2.2.length x.2.1
structure Rows2 (g : World) (v : Value) (z : List El) : Prop where
  came : Came g v (z.map elV)
  each : ∀ x ∈ z, Came0 g (elV x) (zAl x.2.2)
/-- As the row's reader tells them. -/
def RowsW (w : World) (v : Value) (z : List El) : Prop := seqV w v (z.map elV) ∧ ∀ x ∈ z, Came0 w (elV x) (zAl x.2.2)
theorem RowsW.rows {a : Option Addr} {n c : Nat} {z : List El} (h : RowsW w (.slice a n c) z) (hb : ∀ b, blk (.slice a n c) = some b → b < w.heap.size) : Rows2 w (.slice a n c) z ∧ n = z.length := ⟨⟨⟨h.1, hb⟩, h.2⟩, by have := h.1.len; simpa using this.symm⟩
/-! ### slices of structs that came in -/
theorem choose_rows {α : Type} {len : Nat} {p : Nat → α → Prop} (h : ∀ i, i < len → ∃ z, p i z) : ∃ zs : List α, zs.length = len ∧ ∀ i z, zs[i]? = some z → p i z := by
  induction len with
  | zero => exact ⟨[], rfl, fun i z hz => by simp at hz⟩
  | succ n ih =>
    obtain ⟨zs, h1, h2⟩ := ih fun i hi => h i (by omega)
    obtain ⟨z, hz⟩ := h n (by omega)
    refine ⟨zs ++ [z], by simp [h1], fun i y hy => ?_⟩
    by_cases hi : i < zs.length
    · rw [List.getElem?_append_left hi] at hy; exact h2 i y hy
    · rw [List.getElem?_append_right (by omega)] at hy
      have : i = n := by
        have := (List.getElem?_eq_some_iff.1 hy).1
        simp at this; omega
      subst this
      rw [h1, Nat.sub_self] at hy
      simp at hy
      subst hy
      exact hz
open Go.Deep in
/-- A slice of structs, opened: each row by what its fields are. -/
theorem open_structs {H : Type} {enc : TypeId × Value → H} {P : Program} {w : World} {base : Nat} {spare : Nat → Bool} {held : Bool} {t e : TypeId} {fs : Array Field} {k : Nat} {α : Type} (en : α → List Value) (good : α → Prop) {fuel : Nat} {a : Option Addr} {n c : Nat} {x : DataW H × List MemPlace}
    (ht : P.underlying t = some (.slice e)) (he : P.underlying e = some (.struct fs)) (hk : P.cellsOf e = k) (hk0 : 0 < k)
    (hrow : ∀ (row : List Value) (m : Nat), row.length = k → (∀ (i : Nat) (f : Field), fs[i]? = some f → ∃ y, DataW.trod enc P w base spare held m f.type ((row.drop f.offset).take (P.cellsOf f.type)) = some y) → ∃ z, row = en z ∧ good z)
    (h : DataW.trod enc P w base spare held fuel t [.slice a n c] = some x) : ∃ zs : List α, RowsR w k (.slice a n c) (zs.map en) ∧ ∀ z ∈ zs, good z := by
  rcases open_slice ht h with ⟨h0, _⟩ | ⟨a', len, cap, m, n', D, Pl, hcs, hb, hl, hm, hmm, rfl, hx⟩
  · simp only [List.cons.injEq, Value.slice.injEq, and_true] at h0
    obtain ⟨rfl, rfl, rfl⟩ := h0
    exact ⟨[], ⟨none, 0, 0, rfl, rfl, Nat.le_refl _, .inl rfl⟩, fun z hz => by simp at hz⟩
  · simp only [List.cons.injEq, Value.slice.injEq, and_true] at hcs
    obtain ⟨rfl, rfl, rfl⟩ := hcs
    have hlm : n ≤ m := by rw [hmm]; split <;> omega
    have each : ∀ i, i < n → ∃ z, (∀ j v, (en z)[j]? = some v → w.cell? (a'.add (i * k + j)) = some v) ∧ (en z).length = k ∧ good z := fun i hi => by
      obtain ⟨row, h1, h2⟩ := hx i (by omega)
      rw [hk] at h1
      obtain ⟨_, hlen, hcell⟩ := World.cells?_some h1
      obtain ⟨xs, q, hq, hxy, _, hxl, hf⟩ := DataW.trod_struct he h2
      obtain ⟨z, rfl, hz⟩ := hrow row q hlen fun i f hfi => by
        have hi2 : i < xs.length := by rw [hxl]; exact (Array.getElem?_eq_some_iff.1 hfi).1
        exact ⟨xs[i], by rw [hf i f hfi, List.getElem?_eq_getElem hi2]⟩
      refine ⟨z, fun j v hj => ?_, hlen, hz⟩
      have hjl := (List.getElem?_eq_some_iff.1 hj).1
      rw [← add_add, hcell j (by omega)]
      exact hj
    obtain ⟨zs, hz1, hz2⟩ := choose_rows each
    refine ⟨zs, ⟨some a', n, c, rfl, by simp [hz1], hl, ?_⟩, fun z hz => ?_⟩
    · rcases Nat.eq_zero_or_pos n with h0 | h0
      · left
        have : zs = [] := List.eq_nil_of_length_eq_zero (by omega)
        rw [this]; rfl
      · right
        obtain ⟨z0, hz0⟩ : ∃ z, zs[0]? = some z := ⟨_, List.getElem?_eq_getElem (by omega)⟩
        obtain ⟨e1, e2, _⟩ := hz2 0 z0 hz0
        obtain ⟨v0, hv0⟩ : ∃ v, (en z0)[0]? = some v := ⟨_, List.getElem?_eq_getElem (by omega)⟩
        have hc := e1 0 v0 hv0
        obtain ⟨b, off, sp⟩ := a'
        have hsp : sp = none := by
          cases sp with
          | none => rfl
          | some s =>
            simp only [World.cell?, Addr.add, Nat.zero_mul, Nat.add_zero, if_true] at hc
            split at hc
            · simp at hc
            · cases hc
        subst hsp
        have hbl := World.block_lt_of_cell? w _ hc
        have hbk : ((⟨b, off, none⟩ : Addr).add (0 * k + 0)).block = b := by unfold Addr.add; split <;> rfl
        rw [hbk] at hbl
        refine ⟨b, off, rfl, hbl, fun q row hq j v hj => ?_⟩
        rw [List.getElem?_map] at hq
        obtain ⟨z, hzq, rfl⟩ := Option.map_eq_some_iff.1 hq
        have := (hz2 q z hzq).1 j v hj
        rw [Addr.add_lit] at this
        rw [Nat.add_assoc]
        exact this
    · obtain ⟨i, hi⟩ := List.getElem?_of_mem hz
      exact (hz2 i z hi).2.2
end Go.Proofs.YtdkgdjnbpjjfmaaGreatDoor
namespace Go.Proofs.YtdkgdjnbpjjfmaaGreatDoor
set_option linter.all false

abbrev Pr := Int × Int
abbrev Ob := ByteArray × Int × Nat
structure Mf where
  id : Int
  base : Int
  fin : Int
  time : Int
  eps : List Pr
  obs : List Ob
deriving DecidableEq
def Mf.z : Mf := ⟨0, 0, 0, 0, [], []⟩
def prL (p : Pr) : List Value := [.int .i64 p.1, .int .i64 p.2]
def obL (o : Ob) : List Value := [.string o.1, .int .i64 o.2.1, .int .u32 o.2.2]
abbrev SA := Option Addr × Nat
def mfL (x : Mf) (e o : SA) : List Value := [.int .i64 x.id, .int .i64 x.base, .int .i64 x.fin, .int .i64 x.time, .slice e.1 x.eps.length e.2, .slice o.1 x.obs.length o.2]
/-! ### what is amiss: the error's number, its place -/
abbrev Flt := Nat × Option Nat
def zDr (n : Int) : Bool := decide (0 ≤ n) && decide (n ≤ 1099511627776)
def rightE (n : Int) : Bool := decide (0 ≤ n) && decide (n ≤ 1073741824)
def rightT (n : Int) : Bool := decide (-1099511627776 ≤ n) && decide (n ≤ 1099511627776)
def prOk (p : Pr) : Bool := rightE p.1 && zDr p.2
/-- The i-th pair stands behind the one ahead. -/
def risAt (l : List Pr) (i : Nat) : Bool := decide ((l.getD (i - 1) (0, 0)).1 < (l.getD i (0, 0)).1) && decide ((l.getD (i - 1) (0, 0)).2 < (l.getD i (0, 0)).2)
def ris (l : List Pr) : Bool := (List.range l.length).all fun i => i == 0 || risAt l i
theorem ris_iff {l : List Pr} : ris l = true ↔ ∀ i, 1 ≤ i → i < l.length → risAt l i = true := by
  simp only [ris, List.all_eq_true, List.mem_range, Bool.or_eq_true, beq_iff_eq]
  constructor
  · intro h i h1 h2
    rcases h i h2 with h | h
    · omega
    · exact h
  · intro h i h2
    rcases Nat.eq_zero_or_pos i with h0 | h0
    · exact .inl h0
    · exact .inr (h i h0 h2)
theorem ris_no {l : List Pr} {i : Nat} (h1 : 1 ≤ i) (h2 : i < l.length) (h : risAt l i = false) : ris l = false := by
  cases hr : ris l with
  | false => rfl
  | true => rw [ris_iff.1 hr i h1 h2] at h; cases h
def epF (l : List Pr) : Nat := if 256 < l.length then 104 else if l.all prOk = false then 105 else if ris l = false then 103 else 0
def zCy (o : Ob) : Nat := if zC1 o.1.data.toList = false then 106 else if o.2.1 < 0 ∨ 1073741824 < o.2.1 then 105 else 0
def obF (l : List Ob) : Flt :=
  if l.length < 1 ∨ 8 < l.length then (104, none) else
  match l.findIdx? fun o => zCy o != 0 with
  | some i => (zCy (l.getD i (ByteArray.empty, 0, 0)), some i)
  | none => if (l.map Prod.fst).Nodup then (0, none) else (103, none)
theorem obF_bad {l : List Ob} {i : Nat} {o : Ob} (h0 : ¬ (l.length < 1 ∨ 8 < l.length)) (ho : l[i]? = some o) (hb : zCy o ≠ 0) (h : ∀ j, j < i → ∀ u, l[j]? = some u → zCy u = 0) : obF l = (zCy o, some i) := by
  obtain ⟨hi, he⟩ := List.getElem?_eq_some_iff.1 ho
  have : (l.findIdx? fun o => zCy o != 0) = some i := by
    rw [List.findIdx?_eq_some_iff_getElem]
    refine ⟨hi, by rw [he]; simpa using hb, fun j hj => ?_⟩
    have := h j hj _ (List.getElem?_eq_getElem (by omega))
    simp [this]
  simp only [obF, if_neg h0, this]
  rw [List.getD_eq_getElem?_getD, ho]
  rfl
theorem findIdx_none {l : List Ob} (h : ∀ (j : Nat) (u : Ob), l[j]? = some u → zCy u = 0) : (l.findIdx? fun o => zCy o != 0) = none := by
  rw [List.findIdx?_eq_none_iff]
  intro u hu
  obtain ⟨j, hj⟩ := List.mem_iff_getElem?.1 hu
  simp [h j u hj]
theorem obF_fine {l : List Ob} (h0 : ¬ (l.length < 1 ∨ 8 < l.length)) (h : ∀ (j : Nat) (u : Ob), l[j]? = some u → zCy u = 0) : obF l = if (l.map Prod.fst).Nodup then (0, none) else (103, none) := by
  simp only [obF, if_neg h0, findIdx_none h]
def zBd (x : Mf) : Bool := decide (x.id < 0) || decide (2147483647 < x.id) || !zDr x.base || !zDr x.fin || decide (x.time < -1099511627776) || decide (1099511627776 < x.time) || decide (x.fin ≤ x.base)
def zD2 (x : Mf) : Bool := decide (x.eps.length = 0) || decide ((x.eps.getD 0 (0, 0)).2 ≠ x.base) || decide (x.fin ≤ (x.eps.getD (x.eps.length - 1) (0, 0)).2)
def mfF (x : Mf) : Flt :=
  if zBd x then (105, none) else if epF x.eps ≠ 0 then (epF x.eps, none) else if zD2 x then (103, none) else obF x.obs
theorem obBad_code (o : Ob) : zCy o = 0 ∨ zCy o = 106 ∨ zCy o = 105 := by
  unfold zCy
  split
  · exact .inr (.inl rfl)
  · split
    · exact .inr (.inr rfl)
    · exact .inl rfl
theorem epF_code (l : List Pr) : epF l = 0 ∨ epF l = 104 ∨ epF l = 105 ∨ epF l = 103 := by
  unfold epF
  split
  · exact .inr (.inl rfl)
  · split
    · exact .inr (.inr (.inl rfl))
    · split
      · exact .inr (.inr (.inr rfl))
      · exact .inl rfl
/-- A fault's number is one of a few; a place stands by an error alone. -/
def FltOk (f : Flt) : Prop := (f = (0, none) ∨ f.1 ∈ [103, 104, 105, 106]) ∧ (f.2 = none ∨ f.1 ∈ [105, 106])
theorem obF_ok (l : List Ob) : FltOk (obF l) := by
  unfold obF
  split
  · exact ⟨.inr (by decide), .inl rfl⟩
  · split
    · rename_i i hi
      rw [List.findIdx?_eq_some_iff_getElem] at hi
      obtain ⟨hl, hb, _⟩ := hi
      have hg : l.getD i (ByteArray.empty, 0, 0) = l[i] := by rw [List.getD_eq_getElem?_getD, List.getElem?_eq_getElem hl]; rfl
      rw [hg]
      rcases obBad_code l[i] with h | h | h
      · simp [h] at hb
      · rw [h]; exact ⟨.inr (by simp), .inr (by simp)⟩
      · rw [h]; exact ⟨.inr (by simp), .inr (by simp)⟩
    · split
      · exact ⟨.inl rfl, .inl rfl⟩
      · exact ⟨.inr (by decide), .inl rfl⟩
theorem mfF_ok (x : Mf) : FltOk (mfF x) := by
  unfold mfF
  split
  · exact ⟨.inr (by decide), .inl rfl⟩
  · split
    · rename_i h
      refine ⟨.inr ?_, .inl rfl⟩
      rcases epF_code x.eps with e | e | e | e
      · exact absurd e h
      all_goals rw [e]; decide
    · split
      · exact ⟨.inr (by decide), .inl rfl⟩
      · exact obF_ok _
/-! ### a view -/
def nextB (s k : Int) : Bool := if k = 1 then decide (s = 0) else if k = 2 then decide (s = 1) else if k = 3 then decide (s = 1) || decide (s = 2) else if k = 4 then decide (s = 3) else false
structure Itm where
  st : Int
  m : Mf
deriving DecidableEq
abbrev Vw := List (Int × Itm)
def Vw.state (V : Vw) (id : Int) : Int := (zB1 V id).elim 0 Itm.st
def Vw.apply (V : Vw) (k : Int) (x : Mf) : Flt × Vw :=
  if (mfF x).1 ≠ 0 then (mfF x, V) else
  if k < 1 ∨ 4 < k then ((112, none), V) else
  if nextB (V.state x.id) k = false then ((113, none), V) else
  match zB1 V x.id with
  | none => if 4096 ≤ V.length then ((104, none), V) else ((0, none), zC9 V x.id ⟨k, x⟩)
  | some i => if i.m = x then ((0, none), zC9 V x.id ⟨k, x⟩) else ((103, none), V)
def Mf.names (x : Mf) : List ByteArray := x.obs.map Prod.fst
def hasN (l : List ByteArray) (n : ByteArray) : Bool := l.any fun x => decide (x = n)
def refersB (i : Itm) (n : ByteArray) : Bool := (decide (i.st = 1) || decide (i.st = 2)) && hasN i.m.names n
def Vw.refers (V : Vw) (n : ByteArray) : Bool := V.any fun x => refersB x.2 n
end Go.Proofs.YtdkgdjnbpjjfmaaGreatDoor
namespace Go.Proofs.YtdkgdjnbpjjfmaaGreatDoor
set_option linter.all false
open Go.RowKit
variable {g w : World} {ad : Nat → Addr}

theorem run_mkI {P : Program} {ρ : Env} {dst : Option Tmp} {ty : TypeId} {pos : String} {aft : Array Edge} {x : Operand} {t e : TypeId} {v : Value} (ht : P.underlying t = some (.pointer e)) (hx : ev ρ x = v) : (execOp (ev ρ) ⟨dst, .makeInterface t x, ty, pos, aft, none⟩).run P w = .ok (.value (.iface t v)) w := by
  simp [execOp, Instr.makeInterface, run_underlying ht, hx]
theorem errV_one (ad : Nat → Addr) (c : Nat) : (zAo ad c).oneCell' = true := by unfold zAo; split <;> rfl
theorem at_one (z : Int) (k : Nat) : ∀ u ∈ [Value.int .i64 z, zAo ad k], u.cells = #[u] := zE1 fun u hu => by
  simp only [List.mem_cons, List.not_mem_nil, or_false] at hu
  rcases hu with rfl | rfl
  · rfl
  · exact errV_one ad k
theorem zFf {P : Program} {ρ : Env} {dst : Option Tmp} {ty : TypeId} {pos : String} {aft : Array Edge} {x y : Operand} {t u : TypeId} {a b : ByteArray} (hx : ev ρ x = .string a) (hy : ev ρ y = .string b) (hl : a.size + b.size ≤ 9223372036854775807) : (execOp (ev ρ) ⟨dst, .binOp .add t x y u, ty, pos, aft, none⟩).run P w = .ok (.value (.string (a ++ b))) w := by
  have hl2 : (a.size : Int) + b.size ≤ 9223372036854775807 := by omega
  simp [execOp, hx, hy, guard_str, binOp, Op.stringOp, hl2]
end Go.Proofs.YtdkgdjnbpjjfmaaGreatDoor
namespace Go.Proofs.YtdkgdjnbpjjfmaaGreatDoor
set_option linter.all false
open Go.RowKit
variable {g w : World} {L M : List HP} {ad : Nat → Addr} {p : Nat}

def flV (ad : Nat → Addr) (f : Flt) (eb : Nat) : Value := match f.2 with | none => zAo ad f.1 | some _ => .iface 104 (.pointer (some ⟨eb, 0, none⟩))
def flC (ad : Nat → Addr) (f : Flt) (eb : Nat) : HP := match f.2 with | none => emp | some z => cells eb [.int .i64 (z : Nat), zAo ad f.1] 109
theorem flV_bare (c eb : Nat) : flV ad (c, none) eb = zAo ad c := rfl
theorem flC_bare (c eb : Nat) : flC ad (c, none) eb = emp := rfl
theorem flV_at (c z eb : Nat) : flV ad (c, some z) eb = .iface 104 (.pointer (some ⟨eb, 0, none⟩)) := rfl
theorem emp_okF (w : World) : emp.ok (fun _ => False) w := fun _ h => h
/-- A result that is an error. -/
def RetF (ad : Nat → Addr) (f : Flt) (g : World) (L : List HP) : Value → World → Prop := fun v w' => ∃ eb, v = flV ad f eb ∧ Mem g w' (flC ad f eb :: L)
theorem RetF.bare {c : Nat} (hs : Mem g w L) : RetF ad (c, none) g L (zAo ad c) w := ⟨0, rfl, hs.addE (emp_okF w)⟩
section
variable {ρ : Env} {dst : Option Tmp} {ty : TypeId} {pos : String} {aft : Array Edge} {x : Operand} {u : TypeId} {f : Flt} {eb : Nat}
theorem run_eqF (hf : f.2 = none ∨ f.1 ≠ 0) (hx : ev ρ x = flV ad f eb) : (execOp (ev ρ) ⟨dst, .binOp .eql 27 x (.const .nilIface) u, ty, pos, aft, none⟩).run Tryz.prog w = .ok (.value (.bool (decide (f.1 = 0)))) w := by
  obtain ⟨c, z⟩ := f
  cases z with
  | none => exact zD hx
  | some z =>
    have hc : c ≠ 0 := by simpa using hf
    rw [flV_at] at hx
    rw [show (decide (((c, some z) : Flt).1 = 0)) = false from decide_eq_false hc]
    have hy : ev ρ (.const .nilIface) = .nilIface := rfl
    have hg : (eqGuard .eql 27 x (.const .nilIface) (.iface 104 (.pointer (some ⟨eb, 0, none⟩))) .nilIface).run Tryz.prog w = .ok () w := by cases x <;> rfl
    have hb : binOp .eql 27 (.iface 104 (.pointer (some ⟨eb, 0, none⟩))) .nilIface = (do pure (.bool (← Op.equal 27 (.iface 104 (.pointer (some ⟨eb, 0, none⟩))) .nilIface))) := rfl
    have he : (Op.equal 27 (.iface 104 (.pointer (some ⟨eb, 0, none⟩))) .nilIface).run Tryz.prog w = .ok false w := by
      show (Op.equalIn 10000 _ _ _).run Tryz.prog w = _
      rw [Op.equalIn]
      simp [run_underlying zCv]
    simp only [execOp, hx, hy, Sem.run_bind, hg, hb, he, Result.andThen_ok, Sem.run_pure]
theorem run_neF (hf : f.2 = none ∨ f.1 ≠ 0) (hx : ev ρ x = flV ad f eb) : (execOp (ev ρ) ⟨dst, .binOp .neq 27 x (.const .nilIface) u, ty, pos, aft, none⟩).run Tryz.prog w = .ok (.value (.bool (!decide (f.1 = 0)))) w := by
  obtain ⟨c, z⟩ := f
  cases z with
  | none => exact zAy hx
  | some z =>
    have hc : c ≠ 0 := by simpa using hf
    rw [flV_at] at hx
    rw [show (decide (((c, some z) : Flt).1 = 0)) = false from decide_eq_false hc]
    have hy : ev ρ (.const .nilIface) = .nilIface := rfl
    have hg : (eqGuard .neq 27 x (.const .nilIface) (.iface 104 (.pointer (some ⟨eb, 0, none⟩))) .nilIface).run Tryz.prog w = .ok () w := by cases x <;> rfl
    have hb : binOp .neq 27 (.iface 104 (.pointer (some ⟨eb, 0, none⟩))) .nilIface = (do pure (.bool (!(← Op.equal 27 (.iface 104 (.pointer (some ⟨eb, 0, none⟩))) .nilIface)))) := rfl
    have he : (Op.equal 27 (.iface 104 (.pointer (some ⟨eb, 0, none⟩))) .nilIface).run Tryz.prog w = .ok false w := by
      show (Op.equalIn 10000 _ _ _).run Tryz.prog w = _
      rw [Op.equalIn]
      simp [run_underlying zCv]
    simp only [execOp, hx, hy, Sem.run_bind, hg, hb, he, Result.andThen_ok, Sem.run_pure]
end
theorem FltOk.place {f : Flt} (h : FltOk f) : f.2 = none ∨ f.1 ≠ 0 := by
  rcases h.2 with h | h
  · exact .inl h
  · right; intro e; rw [e] at h; revert h; decide

/-! ### a manifest that can be read -/
structure MfR (g : World) (L : List HP) (x : Mf) (e o : SA) : Prop where
  eps : RdK g L 2 (.slice e.1 x.eps.length e.2) (x.eps.map prL)
  obs : RdK g L 3 (.slice o.1 x.obs.length o.2) (x.obs.map obL)
theorem MfR.cons {x : Mf} {e o : SA} {C : HP} (h : MfR g L x e o) : MfR g (C :: L) x e o := ⟨h.eps.cons, h.obs.cons⟩
/-- What the slices of a manifest are. -/
abbrev mfP (x : Mf) (e o : SA) : List HP := [rowK 2 (.slice e.1 x.eps.length e.2) (x.eps.map prL), rowK 3 (.slice o.1 x.obs.length o.2) (x.obs.map obL)]
theorem MfR.own {x : Mf} {e o : SA} (i j : Nat) (hi : L[i]? = some (rowK 2 (.slice e.1 x.eps.length e.2) (x.eps.map prL))) (hj : L[j]? = some (rowK 3 (.slice o.1 x.obs.length o.2) (x.obs.map obL))) : MfR g L x e o := ⟨RdK.row i hi, RdK.row j hj⟩
theorem zDm {l : List Pr} {k : Nat} {x : Pr} (h : l[k]? = some x) : (l.map prL)[k]? = some (prL x) := by simp [h]
theorem obL_at {l : List Ob} {k : Nat} {x : Ob} (h : l[k]? = some x) : (l.map obL)[k]? = some (obL x) := by simp [h]
theorem prL_rows (l : List Pr) : ∀ r ∈ l.map prL, r.length = 2 ∧ ∀ u ∈ r, u.oneCell' = true := fun r hr => by
  obtain ⟨x, _, rfl⟩ := List.mem_map.1 hr
  refine ⟨rfl, fun u hu => ?_⟩
  simp only [prL, List.mem_cons, List.not_mem_nil, or_false] at hu
  rcases hu with rfl | rfl <;> rfl
theorem obL_rows (l : List Ob) : ∀ r ∈ l.map obL, r.length = 3 ∧ ∀ u ∈ r, u.oneCell' = true := fun r hr => by
  obtain ⟨x, _, rfl⟩ := List.mem_map.1 hr
  refine ⟨rfl, fun u hu => ?_⟩
  simp only [obL, List.mem_cons, List.not_mem_nil, or_false] at hu
  rcases hu with rfl | rfl | rfl <;> rfl

/-! ### a view -/
def itmV (i : Itm) (e o : SA) : Value := .agg (.int .i64 i.st :: mfL i.m e o).toArray
def itmC (v : Value) (i : Itm) : HP := ex fun s : SA × SA => also (stars (mfP i.m s.1 s.2)) (v = itmV i s.1 s.2)
theorem Mem.openItm {v : Value} {i : Itm} (hs : Mem g w (itmC v i :: L)) : ∃ e o, v = itmV i e o ∧ Mem g w (mfP i.m e o ++ L) := by
  obtain ⟨⟨e, o⟩, h⟩ := hs.unex
  obtain ⟨h1, h2⟩ := h.unalso
  exact ⟨e, o, h1, h2.unstars⟩
theorem Mem.closeItm {i : Itm} {e o : SA} (hs : Mem g w (mfP i.m e o ++ L)) : Mem g w (itmC (itmV i e o) i :: L) :=
  Mem.ex (f := fun s : SA × SA => Go.Proofs.YtdkgdjnbpjjfmaaGreatDoor.also (Go.Proofs.YtdkgdjnbpjjfmaaGreatDoor.stars (mfP i.m s.1 s.2)) (itmV i e o = itmV i s.1 s.2)) (e, o) (Mem.also rfl hs.stars)
structure Vw.ok (V : Vw) : Prop where
  nd : (zAg V).Nodup
  fine : ∀ x ∈ V, (mfF x.2.m).1 = 0 ∧ x.2.m.id = x.1 ∧ 1 ≤ x.2.st ∧ x.2.st ≤ 4
  few : V.length ≤ 4096
abbrev mapV (m : Nat) (es : List (Int × Value)) : HP := mapC (Value.int .i64) m es
abbrev viewP (p m : Nat) (es : List (Int × Value)) (V : Vw) : List HP := [cells p [.map (some m)] 79, mapV m es, famC itmC es V]
def zEx (p : Nat) (V : Vw) : HP := ex fun x : Nat × List (Int × Value) => also (stars (viewP p x.1 x.2 V)) V.ok
theorem Mem.openV {V : Vw} (hs : Mem g w (zEx p V :: L)) : V.ok ∧ ∃ m es, Mem g w (viewP p m es V ++ L) := by
  obtain ⟨⟨m, es⟩, h⟩ := hs.unex
  obtain ⟨h1, h2⟩ := h.unalso
  exact ⟨h1, m, es, h2.unstars⟩
theorem Mem.closeV {V : Vw} {m : Nat} {es : List (Int × Value)} (ho : V.ok) (hs : Mem g w (viewP p m es V ++ L)) : Mem g w (zEx p V :: L) :=
  Mem.ex (f := fun x : Nat × List (Int × Value) => Go.Proofs.YtdkgdjnbpjjfmaaGreatDoor.also (Go.Proofs.YtdkgdjnbpjjfmaaGreatDoor.stars (viewP p x.1 x.2 V)) V.ok) (m, es) (Mem.also ho hs.stars)
theorem Mem.closeV1 {C : HP} {V : Vw} {m : Nat} {es : List (Int × Value)} (ho : V.ok) (hs : Mem g w (C :: (viewP p m es V ++ L))) : Mem g w (C :: zEx p V :: L) :=
  (Mem.closeV (L := C :: L) ho (hs.arr [1, 2, 3, 0] 4 (by decide))).arr [1, 0] 2 (by decide)
theorem keys_len {κ α β : Type} {l : List (κ × α)} {m : List (κ × β)} (h : zAg l = zAg m) : l.length = m.length := by
  have := congrArg List.length h
  simpa [zAg] using this
end Go.Proofs.YtdkgdjnbpjjfmaaGreatDoor
namespace Go.Proofs.YtdkgdjnbpjjfmaaGreatDoor
set_option linter.all false
open Go.RowKit Go.Deep

/-- Its slices lie there; its sums are of 32 bits. -/
def MfIn (w : World) (m : Mf) (e o : SA) : Prop := RowsR w 2 (.slice e.1 m.eps.length e.2) (m.eps.map prL) ∧ RowsR w 3 (.slice o.1 m.obs.length o.2) (m.obs.map obL) ∧ ∀ y ∈ m.obs, y.2.2 < 4294967296
theorem wf_u32 {n : Int} (h : (Lit.int .u32 n).wf = true) : 0 ≤ n ∧ n < 4294967296 := by
  simp only [Lit.wf, Bool.and_eq_true, decide_eq_true_eq, IntKind.min, IntKind.max, IntKind.signed, IntKind.bits] at h
  simp at h
  omega
set_option maxRecDepth 100000 in
theorem open_mani {H : Type} {enc : TypeId × Value → H} {w : World} {base : Nat} {spare : Nat → Bool} {held : Bool} {fuel : Nat} {cs : List Value} {x : DataW H × List MemPlace}
    (h : DataW.trod enc Tryz.prog w base spare held fuel 39 cs = some x) : ∃ (m : Mf) (e o : SA), cs = mfL m e o ∧ MfIn w m e o := by
  have ck : Tryz.prog.cellsOf 39 = 6 := by kernel_rfl
  have cp : Tryz.prog.cellsOf 141 = 2 := by kernel_rfl
  have cb : Tryz.prog.cellsOf 113 = 3 := by kernel_rfl
  have c1 : Tryz.prog.cellsOf 3 = 1 := by kernel_rfl
  have c2 : Tryz.prog.cellsOf 2 = 1 := by kernel_rfl
  have c3 : Tryz.prog.cellsOf 9 = 1 := by kernel_rfl
  have c4 : Tryz.prog.cellsOf 111 = 1 := by kernel_rfl
  have c5 : Tryz.prog.cellsOf 36 = 1 := by kernel_rfl
  have c6 : Tryz.prog.cellsOf 37 = 1 := by kernel_rfl
  obtain ⟨xs, n, _, _, hl, hxl, hf⟩ := DataW.trod_struct zBx h
  rw [ck] at hl
  match cs, hl with
  | [v0, v1, v2, v3, v4, v5], _ =>
    have get : ∀ (i : Nat), i < 6 → ∃ y, xs[i]? = some y := fun i hi => ⟨xs[i]'(by rw [hxl]; exact hi), List.getElem?_eq_getElem _⟩
    obtain ⟨y0, q0⟩ := get 0 (by decide)
    obtain ⟨y1, q1⟩ := get 1 (by decide)
    obtain ⟨y2, q2⟩ := get 2 (by decide)
    obtain ⟨y3, q3⟩ := get 3 (by decide)
    obtain ⟨y4, q4⟩ := get 4 (by decide)
    obtain ⟨y5, q5⟩ := get 5 (by decide)
    have g0 : DataW.trod enc Tryz.prog w base spare held n 3 (([v0, v1, v2, v3, v4, v5].drop 0).take (Tryz.prog.cellsOf 3)) = some y0 := (hf 0 _ rfl).trans q0
    have g1 : DataW.trod enc Tryz.prog w base spare held n 2 (([v0, v1, v2, v3, v4, v5].drop 1).take (Tryz.prog.cellsOf 2)) = some y1 := (hf 1 _ rfl).trans q1
    have g2 : DataW.trod enc Tryz.prog w base spare held n 2 (([v0, v1, v2, v3, v4, v5].drop 2).take (Tryz.prog.cellsOf 2)) = some y2 := (hf 2 _ rfl).trans q2
    have g3 : DataW.trod enc Tryz.prog w base spare held n 2 (([v0, v1, v2, v3, v4, v5].drop 3).take (Tryz.prog.cellsOf 2)) = some y3 := (hf 3 _ rfl).trans q3
    have g4 : DataW.trod enc Tryz.prog w base spare held n 36 (([v0, v1, v2, v3, v4, v5].drop 4).take (Tryz.prog.cellsOf 36)) = some y4 := (hf 4 _ rfl).trans q4
    have g5 : DataW.trod enc Tryz.prog w base spare held n 37 (([v0, v1, v2, v3, v4, v5].drop 5).take (Tryz.prog.cellsOf 37)) = some y5 := (hf 5 _ rfl).trans q5
    rw [c1] at g0
    rw [c2] at g1 g2 g3
    rw [c5] at g4
    rw [c6] at g5
    obtain ⟨z0, e0, _, _⟩ := DataW.trod_int uz3 g0
    obtain ⟨z1, e1, _, _⟩ := DataW.trod_int uz2 g1
    obtain ⟨z2, e2, _, _⟩ := DataW.trod_int uz2 g2
    obtain ⟨z3, e3, _, _⟩ := DataW.trod_int uz2 g3
    cases e0; cases e1; cases e2; cases e3
    have g4 : DataW.trod enc Tryz.prog w base spare held n 36 [v4] = some y4 := g4
    have g5 : DataW.trod enc Tryz.prog w base spare held n 37 [v5] = some y5 := g5
    obtain ⟨a4, n4, k4, rfl⟩ : ∃ a n c, v4 = .slice a n c := by
      rcases open_slice zCq g4 with ⟨e, _⟩ | ⟨a, l, c, _, _, _, _, e, _⟩ <;> cases e <;> exact ⟨_, _, _, rfl⟩
    obtain ⟨a5, n5, k5, rfl⟩ : ∃ a n c, v5 = .slice a n c := by
      rcases open_slice zC g5 with ⟨e, _⟩ | ⟨a, l, c, _, _, _, _, e, _⟩ <;> cases e <;> exact ⟨_, _, _, rfl⟩
    obtain ⟨eps, h4, _⟩ := open_structs (P := Tryz.prog) (k := 2) prL (fun _ => True) zCq zDb cp (by decide) (fun row m hl hf => by
      match row, hl with
      | [u0, u1], _ =>
        obtain ⟨t0, r0⟩ := hf 0 _ rfl
        obtain ⟨t1, r1⟩ := hf 1 _ rfl
        have r0 : DataW.trod enc Tryz.prog w base spare held m 3 (([u0, u1].drop 0).take (Tryz.prog.cellsOf 3)) = some t0 := r0
        have r1 : DataW.trod enc Tryz.prog w base spare held m 2 (([u0, u1].drop 1).take (Tryz.prog.cellsOf 2)) = some t1 := r1
        rw [c1] at r0
        rw [c2] at r1
        obtain ⟨z0, e0, _, _⟩ := DataW.trod_int uz3 r0
        obtain ⟨z1, e1, _, _⟩ := DataW.trod_int uz2 r1
        cases e0; cases e1
        exact ⟨(z0, z1), rfl, trivial⟩) g4
    obtain ⟨obs, h5, h6⟩ := open_structs (P := Tryz.prog) (k := 3) obL (fun y : Ob => y.2.2 < 4294967296) zC zCx cb (by decide) (fun row m hl hf => by
      match row, hl with
      | [u0, u1, u2], _ =>
        obtain ⟨t0, r0⟩ := hf 0 _ rfl
        obtain ⟨t1, r1⟩ := hf 1 _ rfl
        obtain ⟨t2, r2⟩ := hf 2 _ rfl
        have r0 : DataW.trod enc Tryz.prog w base spare held m 9 (([u0, u1, u2].drop 0).take (Tryz.prog.cellsOf 9)) = some t0 := r0
        have r1 : DataW.trod enc Tryz.prog w base spare held m 3 (([u0, u1, u2].drop 1).take (Tryz.prog.cellsOf 3)) = some t1 := r1
        have r2 : DataW.trod enc Tryz.prog w base spare held m 111 (([u0, u1, u2].drop 2).take (Tryz.prog.cellsOf 111)) = some t2 := r2
        rw [c3] at r0
        rw [c1] at r1
        rw [c4] at r2
        obtain ⟨s0, e0, _, _⟩ := DataW.trod_string uz9 r0
        obtain ⟨z1, e1, _, _⟩ := DataW.trod_int uz3 r1
        obtain ⟨z2, e2, _, f2⟩ := DataW.trod_int zEo r2
        cases e0; cases e1; cases e2
        have h9 := wf_u32 f2
        exact ⟨(s0, z1, z2.toNat), by simp only [obL]; rw [Int.toNat_of_nonneg h9.1], by show z2.toNat < _; omega⟩) g5
    have l4 : n4 = eps.length := by have := h4.len; simpa using this
    have l5 : n5 = obs.length := by have := h5.len; simpa using this
    subst l4 l5
    exact ⟨⟨z0, z1, z2, z3, eps, obs⟩, (a4, k4), (a5, k5), rfl, h4, h5, h6⟩
end Go.Proofs.YtdkgdjnbpjjfmaaGreatDoor
namespace Go.Proofs.YtdkgdjnbpjjfmaaGreatDoor
set_option linter.all false
open Go.RowKit
attribute [local irreducible] zAo
variable {g w : World} {L M : List HP} {ad : Nat → Addr} {p : Nat}

/-! ### equality of pairs, of objects -/
section
variable {ρ : Env} {dst : Option Tmp} {ty : TypeId} {pos : String} {aft : Array Edge} {x y : Operand} {u : TypeId}
theorem equal_pr (a b : Pr) : (Op.equalIn 10000 141 (.agg (prL a).toArray) (.agg (prL b).toArray)).run Tryz.prog w = .ok (decide (a = b)) w := by
  have hS : Tryz.prog.underlying 141 = some (.struct (Tryz.prog.fieldsOf 141)) := by kernel_rfl
  have hp : Tryz.prog.stoodInHeld 141 = false := by kernel_rfl
  have u3 := uz3
  have a3 := Tryz.isAgg3
  have z3 := Tryz.sizeOf3
  have u2 := uz2
  have a2 := Tryz.isAgg2
  have z2 := Tryz.sizeOf2
  obtain ⟨a1, a2'⟩ := a
  obtain ⟨b1, b2'⟩ := b
  simp only [prL]
  rw [show (10000 : Nat) = 9999 + 1 from rfl, run_equalIn_agg w 9999 141 _ _ hS hp]
  simp only [Program.fieldsOf, zDb]
  go_simp
  by_cases h1 : a1 = b1 <;> by_cases h2 : a2' = b2' <;> simp [h1, h2]
theorem equal_ob (a b : Ob) : (Op.equalIn 10000 113 (.agg (obL a).toArray) (.agg (obL b).toArray)).run Tryz.prog w = .ok (decide (a = b)) w := by
  have hS : Tryz.prog.underlying 113 = some (.struct (Tryz.prog.fieldsOf 113)) := by kernel_rfl
  have hp : Tryz.prog.stoodInHeld 113 = false := by kernel_rfl
  have u3 := uz3
  have a3 := Tryz.isAgg3
  have z3 := Tryz.sizeOf3
  have u2 := zEo
  have a2 := Tryz.isAgg111
  have z2 := Tryz.sizeOf111
  have u9 := uz9
  have a9 := Tryz.isAgg9
  have z9 := Tryz.sizeOf9
  obtain ⟨n1, a1, a2'⟩ := a
  obtain ⟨n2, b1, b2'⟩ := b
  simp only [obL]
  rw [show (10000 : Nat) = 9999 + 1 from rfl, run_equalIn_agg w 9999 113 _ _ hS hp]
  simp only [Program.fieldsOf, zCx]
  go_simp
  have hn : (n1.toList = n2.toList) ↔ n1 = n2 := by
    rw [ByteArray.toList_eq, ByteArray.toList_eq]
    constructor
    · intro e
      obtain ⟨⟨x⟩⟩ := n1
      obtain ⟨⟨y⟩⟩ := n2
      have e : x = y := e
      rw [e]
    · intro e; rw [e]
  have hz : ((a2' : Int) = (b2' : Int)) ↔ a2' = b2' := by omega
  simp only [hn, hz]
  by_cases h0 : n1 = n2 <;> by_cases h1 : a1 = b1 <;> by_cases h2 : a2' = b2' <;> simp [h0, h1, h2]
theorem run_nePr {a b : Pr} (hx : ev ρ x = .agg (prL a).toArray) (hy : ev ρ y = .agg (prL b).toArray) : (execOp (ev ρ) ⟨dst, .binOp .neq 141 x y u, ty, pos, aft, none⟩).run Tryz.prog w = .ok (.value (.bool (!decide (a = b)))) w := by
  have hg : (eqGuard .neq 141 x y (.agg (prL a).toArray) (.agg (prL b).toArray)).run Tryz.prog w = .ok () w := run_eqGuard_agg w .neq _ x y _ _ (by kernel_rfl)
  simp only [execOp, hx, hy, Sem.run_bind, hg, run_neq_struct, equal_pr, Result.andThen_ok, Sem.run_pure]
theorem run_neOb {a b : Ob} (hx : ev ρ x = .agg (obL a).toArray) (hy : ev ρ y = .agg (obL b).toArray) : (execOp (ev ρ) ⟨dst, .binOp .neq 113 x y u, ty, pos, aft, none⟩).run Tryz.prog w = .ok (.value (.bool (!decide (a = b)))) w := by
  have hg : (eqGuard .neq 113 x y (.agg (obL a).toArray) (.agg (obL b).toArray)).run Tryz.prog w = .ok () w := run_eqGuard_agg w .neq _ x y _ _ (by kernel_rfl)
  simp only [execOp, hx, hy, Sem.run_bind, hg, run_neq_struct, equal_ob, Result.andThen_ok, Sem.run_pure]
end
theorem zDv (l : List Pr) : (l.map prL).length = l.length := by simp
theorem zE4 (l : List Ob) : (l.map obL).length = l.length := by simp
/-! ### right -/
theorem right_sl (hs : Mem g w L) (n : Int) : Calls Tryz.prog 83 #[.int .i64 n] w (Ret fun v w' => v = .bool (zDr n) ∧ Mem g w' L) := by
  refine zAm Tryz.func83 rfl rfl ?_
  skip
  refine zA5 (zA1 ?_)
  refine zA rfl (zA2 (v := .bool _) rfl) ?_
  refine zA4 (zA5 (zA1 ?_))
  refine zA rfl (zA0 (v := .int .i64 _) rfl) ?_
  refine zA rfl (zD1 rfl rfl) ?_
  refine zA rfl (zA0 (v := .bool _) rfl) ?_
  refine zB4 (t := _) (d := 5) rfl ?_ ?_
  ·
   intro h4
   have g4 := of_decide_eq_true h4
   refine zAk rfl rfl h4 ?_
   refine zA rfl (zA0 (v := .int .i64 _) rfl) ?_
   refine zAk rfl rfl h4 ?_
   refine zA rfl (zDo rfl rfl) ?_
   refine zA rfl (zAi (v := .bool _) rfl h4 rfl) ?_
   refine zA rfl (zA2 (v := .bool _) rfl) ?_
   refine zA4 ?_
   refine zAf ?_
   refine zBg (v := .bool _) rfl rfl ?_
   exact ⟨_, rfl, zCp (by rw [Bool.eq_iff_iff]; simp [zDr]; omega), hs⟩
  ·
   intro h4
   have g4 := of_decide_eq_false h4
   refine zA9 rfl rfl rfl h4 ?_
   refine zA9 rfl rfl rfl h4 ?_
   refine zA rfl (zAj (v := .bool _) rfl h4 rfl) ?_
   refine zA rfl (zA2 (v := .bool _) rfl) ?_
   refine zA4 ?_
   refine zAf ?_
   refine zBg (v := .bool _) rfl rfl ?_
   exact ⟨_, rfl, zCp (by rw [Bool.eq_iff_iff]; simp [zDr]; omega), hs⟩
theorem prRight_sl (hs : Mem g w L) (q : Pr) : Calls Tryz.prog 125 #[.agg (prL q).toArray] w (Ret fun v w' => v = .bool (prOk q) ∧ Mem g w' L) := by
  obtain ⟨a, b⟩ := q
  refine zAm Tryz.func125 rfl rfl ?_
  skip
  refine zA5 (zA1 ?_)
  refine zCd (v := .agg _) hs rfl rfl ?_
  clear hs
  intro b1 w hs
  try simp only [List.set_cons_succ, List.set_cons_zero] at hs
  refine zA rfl (zA2 (v := .bool _) rfl) ?_
  refine zA4 (zA5 (zA1 ?_))
  refine zA rfl (zA3 (o' := 0) zDb rfl sz3 rfl rfl rfl) ?_
  refine zA rfl (zA7 uz3 rfl rfl (hs.cellAt 0 rfl rfl)) ?_
  refine zA rfl (zD1 rfl rfl) ?_
  refine zA rfl (zA0 (v := .bool _) rfl) ?_
  refine zB4 (t := _) (d := 6) rfl ?_ ?_
  ·
   intro h5
   have g5 := of_decide_eq_true h5
   refine zAk rfl rfl h5 ?_
   refine zA rfl (zA3 (o' := 0) zDb rfl sz3 rfl rfl rfl) ?_
   refine zAk rfl rfl h5 ?_
   refine zA rfl (zA7 uz3 rfl rfl (hs.cellAt 0 rfl rfl)) ?_
   refine zAk rfl rfl h5 ?_
   refine zA rfl (zDo rfl rfl) ?_
   refine zA rfl (zAi (v := .bool _) rfl h5 rfl) ?_
   refine zA rfl (zA0 (v := .bool _) rfl) ?_
   refine zB4 (t := _) (d := 11) rfl ?_ ?_
   ·
    intro h9
    have g9 := of_decide_eq_true h9
    refine zAk rfl rfl h9 ?_
    refine zA rfl (zA3 (o' := 1) zDb rfl sz2 rfl rfl rfl) ?_
    refine zAk rfl rfl h9 ?_
    refine zA rfl (zA7 uz2 rfl rfl (hs.cellAt 0 rfl rfl)) ?_
    refine zAk rfl rfl h9 ?_
    refine zA rfl (zD1 rfl rfl) ?_
    refine zA rfl (zAi (v := .bool _) rfl h9 rfl) ?_
    refine zA rfl (zA0 (v := .bool _) rfl) ?_
    refine zB4 (t := _) (d := 16) rfl ?_ ?_
    ·
     intro h14
     have g14 := of_decide_eq_true h14
     refine zAk rfl rfl h14 ?_
     refine zA rfl (zA3 (o' := 1) zDb rfl sz2 rfl rfl rfl) ?_
     refine zAk rfl rfl h14 ?_
     refine zA rfl (zA7 uz2 rfl rfl (hs.cellAt 0 rfl rfl)) ?_
     refine zAk rfl rfl h14 ?_
     refine zA rfl (zDo rfl rfl) ?_
     refine zA rfl (zAi (v := .bool _) rfl h14 rfl) ?_
     refine zA rfl (zA2 (v := .bool _) rfl) ?_
     refine zA4 ?_
     refine zAf ?_
     refine zBg (v := .bool _) rfl rfl ?_
     exact ⟨_, rfl, zCp (by rw [Bool.eq_iff_iff]; simp [prOk, rightE, zDr]; omega), hs.tail⟩
    ·
     intro h14
     have g14 := of_decide_eq_false h14
     refine zA9 rfl rfl rfl h14 ?_
     refine zA9 rfl rfl rfl h14 ?_
     refine zA9 rfl rfl rfl h14 ?_
     refine zA rfl (zAj (v := .bool _) rfl h14 rfl) ?_
     refine zA rfl (zA2 (v := .bool _) rfl) ?_
     refine zA4 ?_
     refine zAf ?_
     refine zBg (v := .bool _) rfl rfl ?_
     exact ⟨_, rfl, zCp (by rw [Bool.eq_iff_iff]; simp [prOk, rightE, zDr]; omega), hs.tail⟩
   ·
    intro h9
    have g9 := of_decide_eq_false h9
    refine zA9 rfl rfl rfl h9 ?_
    refine zA9 rfl rfl rfl h9 ?_
    refine zA9 rfl rfl rfl h9 ?_
    refine zA rfl (zAj (v := .bool _) rfl h9 rfl) ?_
    refine zA rfl (zA0 (v := .bool _) rfl) ?_
    refine zA9 rfl rfl rfl rfl ?_
    refine zA9 rfl rfl rfl rfl ?_
    refine zA9 rfl rfl rfl rfl ?_
    refine zA rfl (zAj (v := .bool _) rfl rfl rfl) ?_
    refine zA rfl (zA2 (v := .bool _) rfl) ?_
    refine zA4 ?_
    refine zAf ?_
    refine zBg (v := .bool _) rfl rfl ?_
    exact ⟨_, rfl, zCp (by rw [Bool.eq_iff_iff]; simp [prOk, rightE, zDr]; omega), hs.tail⟩
  ·
   intro h5
   have g5 := of_decide_eq_false h5
   refine zA9 rfl rfl rfl h5 ?_
   refine zA9 rfl rfl rfl h5 ?_
   refine zA9 rfl rfl rfl h5 ?_
   refine zA rfl (zAj (v := .bool _) rfl h5 rfl) ?_
   refine zA rfl (zA0 (v := .bool _) rfl) ?_
   refine zA9 rfl rfl rfl rfl ?_
   refine zA9 rfl rfl rfl rfl ?_
   refine zA9 rfl rfl rfl rfl ?_
   refine zA rfl (zAj (v := .bool _) rfl rfl rfl) ?_
   refine zA rfl (zA0 (v := .bool _) rfl) ?_
   refine zA9 rfl rfl rfl rfl ?_
   refine zA9 rfl rfl rfl rfl ?_
   refine zA9 rfl rfl rfl rfl ?_
   refine zA rfl (zAj (v := .bool _) rfl rfl rfl) ?_
   refine zA rfl (zA2 (v := .bool _) rfl) ?_
   refine zA4 ?_
   refine zAf ?_
   refine zBg (v := .bool _) rfl rfl ?_
   exact ⟨_, rfl, zCp (by rw [Bool.eq_iff_iff]; simp [prOk, rightE, zDr]; omega), hs.tail⟩
theorem prBad_sl (hs : Mem g w L) (q : Pr) : Calls Tryz.prog 124 #[.agg (prL q).toArray] w (Ret fun v w' => v = .bool (!prOk q) ∧ Mem g w' L) := by
  refine zAm Tryz.func124 rfl rfl ?_
  skip
  refine zA5 (zA1 ?_)
  refine zCd (v := .agg _) hs rfl rfl ?_
  clear hs
  intro b1 w hs
  try simp only [List.set_cons_succ, List.set_cons_zero] at hs
  refine zA rfl (zA2 (v := .bool _) rfl) ?_
  refine zA4 (zA5 (zA1 ?_))
  refine zA rfl (zBc hs 0 rfl zDb zDx rfl) ?_
  refine zAa rfl en125 (prRight_sl hs q) ?_
  clear hs
  rintro _ w ⟨rfl, hs⟩
  refine zA rfl (zBz rfl) ?_
  refine zA rfl (zA2 (v := .bool _) rfl) ?_
  refine zA4 ?_
  refine zAf ?_
  refine zBg (v := .bool _) rfl rfl ?_
  exact ⟨_, rfl, rfl, hs.tail⟩
theorem idxP_sl (hs : Mem g w L) {a : Option Addr} {n c : Nat} {l : List Pr} (hr : RdK g L 2 (.slice a n c) (l.map prL)) (hn : n = l.length) (hlen : l.length ≤ 1000000) : Calls Tryz.prog 153 #[.slice a n c, .func (.func 124) #[] #[]] w (Ret fun v w' => ∃ r : Int, (0 ≤ r ↔ l.all prOk = false) ∧ v = .int .i64 r ∧ Mem g w' L) := by
  subst hn
  refine zAm Tryz.func153 rfl rfl ?_
  skip
  refine zA5 (zA1 ?_)
  refine zA rfl (zA2 (v := .int .i64 _) rfl) ?_
  refine zA4 ?_
  refine zA5 ?_
  refine zA5 (zA1 ?_)
  refine zA rfl (zA0 (v := .slice _ _ _) rfl) ?_
  refine zA rfl (zAx zCq rfl) ?_
  refine zA rfl (zA0 (v := .int .i64 _) rfl) ?_
  refine zA4 ?_
  refine zAt ?_
  refine zBr (X := Nat) [4, 5, 8, 9, 10, 11, 12, 13, 14, 15, 16, 17, 18] (fun k => [(8, .int .i64 (k : Nat))]) (fun k w => k ≤ l.length ∧ (l.take k).all prOk = true ∧ Mem g w L) (fun k => l.length - k) (0) ?_ ?_ ?_
  · exact ⟨rfl, trivial⟩
  · exact ⟨Nat.zero_le _, rfl, hs⟩
  clear hs
  rintro x ξ w hI
  obtain ⟨hk, hq, hs⟩ := hI
  refine zA5 (zA1 ?_)
  refine zA rfl (zB3 rfl rfl) ?_
  refine zA4 ?_
  refine zA5 ?_
  refine zB7 rfl ?_ ?_
  ·
   intro h9
   have g9 := of_decide_eq_true h9
   obtain ⟨y, hy⟩ : ∃ y, l[x]? = some y := ⟨_, List.getElem?_eq_getElem (by omega)⟩
   obtain ⟨b1, o1, rfl⟩ := hr.at hs (by rw [zDv]; omega)
   refine zAd ?_
   refine zA5 ?_
   refine zAt ?_
   refine zA5 (zA1 ?_)
   refine zA rfl (zA0 (v := .int .i64 _) rfl) ?_
   refine zA rfl (zA2 (v := .int .i64 _) rfl) ?_
   refine zA4 (zA5 (zA1 ?_))
   refine zA rfl (zA0 (v := .func _ _ _) rfl) ?_
   refine zA rfl (zA0 (v := .slice _ _ _) rfl) ?_
   refine zA rfl (zA0 (v := .int .i64 _) rfl) ?_
   refine zA rfl (zAu zCq zDx rfl rfl rfl (by omega) rfl) ?_
   refine zA rfl (zCu (cs := prL y) zDb zDx rfl (fun j v hj => hr.cell hs (zDm hy) hj)) ?_
   refine lw_callv rfl (cap := #[]) en124 rfl (prBad_sl hs y) ?_
   clear hs
   rintro _ w ⟨rfl, hs⟩
   refine zA4 ?_
   refine zB7 rfl ?_ ?_
   ·
    intro h16
    refine zA5 (zA1 ?_)
    refine zA rfl (zA0 (v := .int .i64 _) rfl) ?_
    refine zA rfl (zA2 (v := .int .i64 _) rfl) ?_
    refine zA4 ?_
    refine zAf ?_
    refine zBg (v := .int .i64 _) rfl rfl ?_
    exact ⟨_, rfl, (x : Nat), ⟨fun _ => Bool.eq_false_iff.2 (fun h => absurd ((List.all_eq_true.1 h y (List.mem_of_getElem? hy)).symm.trans (zEl h16)) (by decide)), fun _ => by omega⟩, rfl, hs⟩
   ·
    intro h16
    refine zAd ?_
    refine zA1 ?_
    refine zA rfl (zAp rfl rfl rfl (inI (by omega) (by omega))) ?_
    refine zA rfl (zA0 (v := .int .i64 _) rfl) ?_
    refine zA4 ?_
    exact ⟨x + 1, by omega, ⟨by omega, by rw [List.take_add_one, hy]; simp [hq, zE h16], hs⟩, ⟨rfl, trivial⟩, by repeat (first | exact Out.mix _ _ _ | refine Out.updo rfl ?_ | refine Out.upd rfl ?_ | refine Out.mixIn rfl ?_)⟩
  ·
   intro h9
   have g9 := of_decide_eq_false h9
   refine zBk rfl ?_
   refine zA5 (zA1 ?_)
   refine zA rfl (zA2 (v := .int .i64 _) rfl) ?_
   refine zA4 ?_
   refine zAf ?_
   refine zBg (v := .int .i64 _) rfl rfl ?_
   have e : x = l.length := by omega
   rw [e, List.take_length] at hq
   exact ⟨_, rfl, -1, ⟨fun h => by omega, fun h => by rw [hq] at h; cases h⟩, rfl, hs⟩
theorem conP_sl (hs : Mem g w L) {a : Option Addr} {n c : Nat} {l : List Pr} (hr : RdK g L 2 (.slice a n c) (l.map prL)) (hn : n = l.length) (hlen : l.length ≤ 1000000) : Calls Tryz.prog 123 #[.slice a n c, .func (.func 124) #[] #[]] w (Ret fun v w' => v = .bool (!l.all prOk) ∧ Mem g w' L) := by
  refine zAm Tryz.func123 rfl rfl ?_
  skip
  refine zA5 (zA1 ?_)
  refine zA rfl (zA2 (v := .bool _) rfl) ?_
  refine zA4 (zA5 (zA1 ?_))
  refine zA rfl (zA0 (v := .slice _ _ _) rfl) ?_
  refine zA rfl (zA0 (v := .func _ _ _) rfl) ?_
  refine zAa rfl en153 (idxP_sl hs hr hn hlen) ?_
  clear hs
  rintro _ w ⟨r, hr2, rfl, hs⟩
  refine zA rfl (zD1 rfl rfl) ?_
  refine zA rfl (zA2 (v := .bool _) rfl) ?_
  refine zA4 ?_
  refine zAf ?_
  refine zBg (v := .bool _) rfl rfl ?_
  exact ⟨_, rfl, zCp (by cases h : l.all prOk; exact decide_eq_true (hr2.2 h); exact decide_eq_false (fun h2 => by rw [h] at hr2; exact absurd (hr2.1 h2) (by decide))), hs⟩
/-! ### copies -/
theorem clonePr_sl (hs : Mem g w L) {a : Option Addr} {n c : Nat} {l : List Pr} (hr : RdK g L 2 (.slice a n c) (l.map prL)) (hn : n = l.length) (hlen : l.length ≤ 1000000) : Calls Tryz.prog 88 #[.slice a n c] w (Ret fun v w' => ∃ s : SA, v = .slice s.1 l.length s.2 ∧ Mem g w' (rowK 2 (.slice s.1 l.length s.2) (l.map prL) :: L)) := by
  subst hn
  rcases Nat.eq_zero_or_pos l.length with h0 | h0
  · obtain rfl : l = [] := List.eq_nil_of_length_eq_zero h0
    cases a with
    | none =>
      refine zAm Tryz.func88 rfl rfl ?_
      skip
      refine zA5 (zA1 ?_)
      refine zA rfl (zA2 (v := .slice _ _ _) rfl) ?_
      refine zA4 ?_
      refine zA5 ?_
      refine zA5 (zA1 ?_)
      refine zA rfl (zA0 (v := .slice _ _ _) rfl) ?_
      refine zA rfl (run_eqsn zCq rfl rfl) ?_
      refine zA4 ?_
      refine zB9 rfl (rfl) ?_
      refine zA5 (zA1 ?_)
      refine zA rfl (zA2 (v := .slice _ _ _) rfl) ?_
      refine zA4 ?_
      refine zAf ?_
      refine zBg (v := .slice _ _ _) rfl rfl ?_
      exact ⟨_, rfl, (none, 0), rfl, hs.addE (rowK_nil 2 _)⟩
    | some a =>
      refine zAm Tryz.func88 rfl rfl ?_
      skip
      refine zA5 (zA1 ?_)
      refine zA rfl (zA2 (v := .slice _ _ _) rfl) ?_
      refine zA4 ?_
      refine zA5 ?_
      refine zA5 (zA1 ?_)
      refine zA rfl (zA0 (v := .slice _ _ _) rfl) ?_
      refine zA rfl (run_eqsn zCq rfl rfl) ?_
      refine zA4 ?_
      refine zB rfl (rfl) ?_
      refine zAd ?_
      refine zA5 (zA1 ?_)
      refine zEu (k := 2) hs rfl zCq in141 ?_
      clear hs
      intro b5 w hs
      refine zA rfl (zA0 (v := .slice _ _ _) rfl) ?_
      refine lw_appendRows0 rfl zCq in141 rfl rfl ((hr.cons _ hs).src zCq (by decide) (prL_rows [])) ?_
      refine zA rfl (zA2 (v := .slice _ _ _) rfl) ?_
      refine zA4 ?_
      refine zAf ?_
      refine zBg (v := .slice _ _ _) rfl rfl ?_
      exact ⟨_, rfl, (some ⟨b5, 0, none⟩, 0), rfl, hs⟩
  · obtain ⟨b1, o1, rfl⟩ := hr.at hs (by rw [zDv]; omega)
    refine zAm Tryz.func88 rfl rfl ?_
    skip
    refine zA5 (zA1 ?_)
    refine zA rfl (zA2 (v := .slice _ _ _) rfl) ?_
    refine zA4 ?_
    refine zA5 ?_
    refine zA5 (zA1 ?_)
    refine zA rfl (zA0 (v := .slice _ _ _) rfl) ?_
    refine zA rfl (run_eqsn zCq rfl rfl) ?_
    refine zA4 ?_
    refine zB rfl (rfl) ?_
    refine zAd ?_
    refine zA5 (zA1 ?_)
    refine zEu (k := 2) hs rfl zCq in141 ?_
    clear hs
    intro b5 w hs
    refine zA rfl (zA0 (v := .slice _ _ _) rfl) ?_
    refine lw_appendRows hs rfl 0 rfl (news := l.map prL) (by rw [zDv]; omega) zCq in141 rfl (prL_rows l) rfl rfl ((hr.cons _ hs).src zCq (by decide) (prL_rows l)) (by simp; omega) (by simp; omega) ?_
    clear hs
    intro a7 c7 w hs
    simp only [List.set_cons_succ, List.set_cons_zero, List.length_nil, zDv, Nat.zero_add, List.nil_append] at hs ⊢
    refine zA rfl (zA2 (v := .slice _ _ _) rfl) ?_
    refine zA4 ?_
    refine zAf ?_
    refine zBg (v := .slice _ _ _) rfl rfl ?_
    exact ⟨_, rfl, (a7, c7), rfl, hs⟩
end Go.Proofs.YtdkgdjnbpjjfmaaGreatDoor
namespace Go.Proofs.YtdkgdjnbpjjfmaaGreatDoor
set_option linter.all false
open Go.RowKit
attribute [local irreducible] zAo
variable {g w : World} {L M : List HP} {ad : Nat → Addr} {p : Nat}

theorem RdK.take {k n c hi : Nat} {a : Option Addr} {rows : List (List Value)} (h : RdK g L k (.slice a n c) rows) (h2 : hi ≤ n) : RdK g L k (.slice a hi c) (rows.take hi) := fun w hs => by
  obtain ⟨a', n', c', hv, hn, hnc, h⟩ := h w hs
  cases hv
  refine ⟨_, _, _, rfl, by rw [List.length_take]; omega, by omega, ?_⟩
  rcases h with rfl | ⟨b, off, rfl, hb, h⟩
  · exact .inl (by simp)
  · refine .inr ⟨b, off, rfl, hb, fun q row hq j v hj => h q row ?_ j v hj⟩
    rw [List.getElem?_take] at hq
    split at hq
    · exact hq
    · cases hq
theorem cloneOb_sl (hs : Mem g w L) {a : Option Addr} {n c : Nat} {l : List Ob} (hr : RdK g L 3 (.slice a n c) (l.map obL)) (hn : n = l.length) (hlen : l.length ≤ 1000000) : Calls Tryz.prog 89 #[.slice a n c] w (Ret fun v w' => ∃ s : SA, v = .slice s.1 l.length s.2 ∧ Mem g w' (rowK 3 (.slice s.1 l.length s.2) (l.map obL) :: L)) := by
  subst hn
  rcases Nat.eq_zero_or_pos l.length with h0 | h0
  · obtain rfl : l = [] := List.eq_nil_of_length_eq_zero h0
    cases a with
    | none =>
      refine zAm Tryz.func89 rfl rfl ?_
      skip
      refine zA5 (zA1 ?_)
      refine zA rfl (zA2 (v := .slice _ _ _) rfl) ?_
      refine zA4 ?_
      refine zA5 ?_
      refine zA5 (zA1 ?_)
      refine zA rfl (zA0 (v := .slice _ _ _) rfl) ?_
      refine zA rfl (run_eqsn zC rfl rfl) ?_
      refine zA4 ?_
      refine zB9 rfl (rfl) ?_
      refine zA5 (zA1 ?_)
      refine zA rfl (zA2 (v := .slice _ _ _) rfl) ?_
      refine zA4 ?_
      refine zAf ?_
      refine zBg (v := .slice _ _ _) rfl rfl ?_
      exact ⟨_, rfl, (none, 0), rfl, hs.addE (rowK_nil 3 _)⟩
    | some a =>
      refine zAm Tryz.func89 rfl rfl ?_
      skip
      refine zA5 (zA1 ?_)
      refine zA rfl (zA2 (v := .slice _ _ _) rfl) ?_
      refine zA4 ?_
      refine zA5 ?_
      refine zA5 (zA1 ?_)
      refine zA rfl (zA0 (v := .slice _ _ _) rfl) ?_
      refine zA rfl (run_eqsn zC rfl rfl) ?_
      refine zA4 ?_
      refine zB rfl (rfl) ?_
      refine zAd ?_
      refine zA5 (zA1 ?_)
      refine zEu (k := 3) hs rfl zC zEn ?_
      clear hs
      intro b5 w hs
      refine zA rfl (zA0 (v := .slice _ _ _) rfl) ?_
      refine lw_appendRows0 rfl zC zEn rfl rfl ((hr.cons _ hs).src zC (by decide) (obL_rows [])) ?_
      refine zA rfl (zA2 (v := .slice _ _ _) rfl) ?_
      refine zA4 ?_
      refine zAf ?_
      refine zBg (v := .slice _ _ _) rfl rfl ?_
      exact ⟨_, rfl, (some ⟨b5, 0, none⟩, 0), rfl, hs⟩
  · obtain ⟨b1, o1, rfl⟩ := hr.at hs (by rw [zE4]; omega)
    refine zAm Tryz.func89 rfl rfl ?_
    skip
    refine zA5 (zA1 ?_)
    refine zA rfl (zA2 (v := .slice _ _ _) rfl) ?_
    refine zA4 ?_
    refine zA5 ?_
    refine zA5 (zA1 ?_)
    refine zA rfl (zA0 (v := .slice _ _ _) rfl) ?_
    refine zA rfl (run_eqsn zC rfl rfl) ?_
    refine zA4 ?_
    refine zB rfl (rfl) ?_
    refine zAd ?_
    refine zA5 (zA1 ?_)
    refine zEu (k := 3) hs rfl zC zEn ?_
    clear hs
    intro b5 w hs
    refine zA rfl (zA0 (v := .slice _ _ _) rfl) ?_
    refine lw_appendRows hs rfl 0 rfl (news := l.map obL) (by rw [zE4]; omega) zC zEn rfl (obL_rows l) rfl rfl ((hr.cons _ hs).src zC (by decide) (obL_rows l)) (by simp; omega) (by simp; omega) ?_
    clear hs
    intro a7 c7 w hs
    simp only [List.set_cons_succ, List.set_cons_zero, List.length_nil, zE4, Nat.zero_add, List.nil_append] at hs ⊢
    refine zA rfl (zA2 (v := .slice _ _ _) rfl) ?_
    refine zA4 ?_
    refine zAf ?_
    refine zBg (v := .slice _ _ _) rfl rfl ?_
    exact ⟨_, rfl, (a7, c7), rfl, hs⟩
theorem eqPr_sl (hs : Mem g w L) {a b : Option Addr} {n m c d : Nat} {la lb : List Pr} (ha : RdK g L 2 (.slice a n c) (la.map prL)) (hb : RdK g L 2 (.slice b m d) (lb.map prL)) (hn : n = la.length) (hm : m = lb.length) (hlen : la.length ≤ 1000000) :
    Calls Tryz.prog 86 #[.slice a n c, .slice b m d] w (Ret fun v w' => v = .bool (decide (la = lb)) ∧ Mem g w' L) := by
  subst hn hm
  refine zAm Tryz.func86 rfl rfl ?_
  skip
  refine zA5 (zA1 ?_)
  refine zA rfl (zA2 (v := .bool _) rfl) ?_
  refine zA4 ?_
  refine zA5 ?_
  refine zA5 (zA1 ?_)
  refine zA rfl (zA0 (v := .slice _ _ _) rfl) ?_
  refine zA rfl (zAx zCq rfl) ?_
  refine zA rfl (zA0 (v := .slice _ _ _) rfl) ?_
  refine zA rfl (zAx zCq rfl) ?_
  refine zA rfl (zE6 rfl rfl) ?_
  refine zA4 ?_
  refine zB7 rfl ?_ ?_
  ·
   intro h10
   have g10 := ne_t h10
   refine zA5 (zA1 ?_)
   refine zA rfl (zA2 (v := .bool _) rfl) ?_
   refine zA4 ?_
   refine zAf ?_
   refine zBg (v := .bool _) rfl rfl ?_
   exact ⟨_, rfl, zCp (by rw [decide_eq_false (fun e => g10 (by rw [e]))]), hs⟩
  ·
   intro h10
   have g10 := ne_f h10
   refine zAd ?_
   refine zA5 ?_
   refine zA5 (zA1 ?_)
   refine zA rfl (zA0 (v := .slice _ _ _) rfl) ?_
   refine zA rfl (zAx zCq rfl) ?_
   refine zA rfl (zA0 (v := .int .i64 _) rfl) ?_
   refine zA4 ?_
   refine zAt ?_
   refine zBr (X := Nat) [4, 5, 13, 14, 15, 16, 17, 18, 19, 20, 21, 22, 23, 24, 25] (fun k => [(13, .int .i64 (k : Nat))]) (fun k w => k ≤ la.length ∧ la.take k = lb.take k ∧ Mem g w L) (fun k => la.length - k) (0) ?_ ?_ ?_
   · exact ⟨rfl, trivial⟩
   · exact ⟨Nat.zero_le _, rfl, hs⟩
   clear hs
   rintro x ξ w hI
   obtain ⟨hk, hq, hs⟩ := hI
   refine zA5 (zA1 ?_)
   refine zA rfl (zB3 rfl rfl) ?_
   refine zA4 ?_
   refine zA5 ?_
   refine zB7 rfl ?_ ?_
   ·
    intro h14
    have g14 := of_decide_eq_true h14
    obtain ⟨xa, hxa⟩ : ∃ xa, la[x]? = some xa := ⟨la[x]'(by omega), List.getElem?_eq_getElem _⟩
    obtain ⟨xb, hxb⟩ : ∃ xb, lb[x]? = some xb := ⟨lb[x]'(by omega), List.getElem?_eq_getElem _⟩
    obtain ⟨b1, o1, rfl⟩ := ha.at hs (by rw [zDv]; omega)
    obtain ⟨b2, o2, rfl⟩ := hb.at hs (by rw [zDv]; omega)
    refine zAd ?_
    refine zA5 ?_
    refine zAt ?_
    refine zA5 (zA1 ?_)
    refine zA rfl (zA0 (v := .int .i64 _) rfl) ?_
    refine zA rfl (zA2 (v := .int .i64 _) rfl) ?_
    refine zA4 ?_
    refine zA5 ?_
    refine zAw zBt hs ?_
    intro w tr hK
    replace hs := tr _ hs
    clear tr
    refine zA6 0 rfl rfl (fun w hs => zA0 (v := .slice _ _ _) rfl) hK ?_
    refine zA6 1 rfl rfl (fun w hs => zA0 (v := .int .i64 _) rfl) hK ?_
    refine zA6 2 rfl rfl (fun w hs => zAu zCq zDx rfl rfl rfl (by omega) rfl) hK ?_
    refine zA6 3 rfl rfl (fun w hs => zCu (cs := prL xa) zDb zDx rfl (fun j v hj => ha.cell hs (zDm hxa) hj)) hK ?_
    refine zA6 4 rfl rfl (fun w hs => zA0 (v := .slice _ _ _) rfl) hK ?_
    refine zA6 5 rfl rfl (fun w hs => zA0 (v := .int .i64 _) rfl) hK ?_
    refine zA6 6 rfl rfl (fun w hs => zAu zCq zDx rfl rfl rfl (by omega) rfl) hK ?_
    refine zA6 7 rfl rfl (fun w hs => zCu (cs := prL xb) zDb zDx rfl (fun j v hj => hb.cell hs (zDm hxb) hj)) hK ?_
    refine @aw_take _ _ _ _ _ _ _ _ _ _ _ _ _ _ 8 _ rfl (by kernel_rfl) (by kernel_rfl) (by kernel_rfl) rfl (fun w hs => run_nePr (a := xa) (b := xb) rfl rfl) hK ?_
    refine zAs (by kernel_rfl) ?_
    clear hK
    refine zB7 rfl ?_ ?_
    ·
     intro h24
     refine zA5 (zA1 ?_)
     refine zA rfl (zA2 (v := .bool _) rfl) ?_
     refine zA4 ?_
     refine zAf ?_
     refine zBg (v := .bool _) rfl rfl ?_
     exact ⟨_, rfl, zCp (by rw [decide_eq_false (fun e => by subst e; rw [hxa] at hxb; cases hxb; simp at h24)]), hs⟩
    ·
     intro h24
     refine zAd ?_
     refine zA1 ?_
     refine zA rfl (zAp rfl rfl rfl (inI (by omega) (by omega))) ?_
     refine zA rfl (zA0 (v := .int .i64 _) rfl) ?_
     refine zA4 ?_
     exact ⟨x + 1, by omega, ⟨by omega, by rw [List.take_add_one, List.take_add_one, hxa, hxb, hq, of_decide_eq_true (zE h24)], hs⟩, ⟨rfl, trivial⟩, by repeat (first | exact Out.mix _ _ _ | refine Out.updo rfl ?_ | refine Out.upd rfl ?_ | refine Out.mixIn rfl ?_)⟩
   ·
    intro h14
    have g14 := of_decide_eq_false h14
    refine zBk rfl ?_
    refine zA5 (zA1 ?_)
    refine zA rfl (zA2 (v := .bool _) rfl) ?_
    refine zA4 ?_
    refine zAf ?_
    refine zBg (v := .bool _) rfl rfl ?_
    have h1 : x = la.length := by omega
    rw [h1, List.take_of_length_le (Nat.le_refl _), List.take_of_length_le (by omega)] at hq
    exact ⟨_, rfl, zCp (decide_eq_true hq).symm, hs⟩
theorem eqOb_sl (hs : Mem g w L) {a b : Option Addr} {n m c d : Nat} {la lb : List Ob} (ha : RdK g L 3 (.slice a n c) (la.map obL)) (hb : RdK g L 3 (.slice b m d) (lb.map obL)) (hn : n = la.length) (hm : m = lb.length) (hlen : la.length ≤ 1000000) :
    Calls Tryz.prog 87 #[.slice a n c, .slice b m d] w (Ret fun v w' => v = .bool (decide (la = lb)) ∧ Mem g w' L) := by
  subst hn hm
  refine zAm Tryz.func87 rfl rfl ?_
  skip
  refine zA5 (zA1 ?_)
  refine zA rfl (zA2 (v := .bool _) rfl) ?_
  refine zA4 ?_
  refine zA5 ?_
  refine zA5 (zA1 ?_)
  refine zA rfl (zA0 (v := .slice _ _ _) rfl) ?_
  refine zA rfl (zAx zC rfl) ?_
  refine zA rfl (zA0 (v := .slice _ _ _) rfl) ?_
  refine zA rfl (zAx zC rfl) ?_
  refine zA rfl (zE6 rfl rfl) ?_
  refine zA4 ?_
  refine zB7 rfl ?_ ?_
  ·
   intro h10
   have g10 := ne_t h10
   refine zA5 (zA1 ?_)
   refine zA rfl (zA2 (v := .bool _) rfl) ?_
   refine zA4 ?_
   refine zAf ?_
   refine zBg (v := .bool _) rfl rfl ?_
   exact ⟨_, rfl, zCp (by rw [decide_eq_false (fun e => g10 (by rw [e]))]), hs⟩
  ·
   intro h10
   have g10 := ne_f h10
   refine zAd ?_
   refine zA5 ?_
   refine zA5 (zA1 ?_)
   refine zA rfl (zA0 (v := .slice _ _ _) rfl) ?_
   refine zA rfl (zAx zC rfl) ?_
   refine zA rfl (zA0 (v := .int .i64 _) rfl) ?_
   refine zA4 ?_
   refine zAt ?_
   refine zBr (X := Nat) [4, 5, 13, 14, 15, 16, 17, 18, 19, 20, 21, 22, 23, 24, 25] (fun k => [(13, .int .i64 (k : Nat))]) (fun k w => k ≤ la.length ∧ la.take k = lb.take k ∧ Mem g w L) (fun k => la.length - k) (0) ?_ ?_ ?_
   · exact ⟨rfl, trivial⟩
   · exact ⟨Nat.zero_le _, rfl, hs⟩
   clear hs
   rintro x ξ w hI
   obtain ⟨hk, hq, hs⟩ := hI
   refine zA5 (zA1 ?_)
   refine zA rfl (zB3 rfl rfl) ?_
   refine zA4 ?_
   refine zA5 ?_
   refine zB7 rfl ?_ ?_
   ·
    intro h14
    have g14 := of_decide_eq_true h14
    obtain ⟨xa, hxa⟩ : ∃ xa, la[x]? = some xa := ⟨la[x]'(by omega), List.getElem?_eq_getElem _⟩
    obtain ⟨xb, hxb⟩ : ∃ xb, lb[x]? = some xb := ⟨lb[x]'(by omega), List.getElem?_eq_getElem _⟩
    obtain ⟨b1, o1, rfl⟩ := ha.at hs (by rw [zE4]; omega)
    obtain ⟨b2, o2, rfl⟩ := hb.at hs (by rw [zE4]; omega)
    refine zAd ?_
    refine zA5 ?_
    refine zAt ?_
    refine zA5 (zA1 ?_)
    refine zA rfl (zA0 (v := .int .i64 _) rfl) ?_
    refine zA rfl (zA2 (v := .int .i64 _) rfl) ?_
    refine zA4 ?_
    refine zA5 ?_
    refine zAw zBt hs ?_
    intro w tr hK
    replace hs := tr _ hs
    clear tr
    refine zA6 0 rfl rfl (fun w hs => zA0 (v := .slice _ _ _) rfl) hK ?_
    refine zA6 1 rfl rfl (fun w hs => zA0 (v := .int .i64 _) rfl) hK ?_
    refine zA6 2 rfl rfl (fun w hs => zAu zC zEm rfl rfl rfl (by omega) rfl) hK ?_
    refine zA6 3 rfl rfl (fun w hs => zCu (cs := obL xa) zCx zEm rfl (fun j v hj => ha.cell hs (obL_at hxa) hj)) hK ?_
    refine zA6 4 rfl rfl (fun w hs => zA0 (v := .slice _ _ _) rfl) hK ?_
    refine zA6 5 rfl rfl (fun w hs => zA0 (v := .int .i64 _) rfl) hK ?_
    refine zA6 6 rfl rfl (fun w hs => zAu zC zEm rfl rfl rfl (by omega) rfl) hK ?_
    refine zA6 7 rfl rfl (fun w hs => zCu (cs := obL xb) zCx zEm rfl (fun j v hj => hb.cell hs (obL_at hxb) hj)) hK ?_
    refine @aw_take _ _ _ _ _ _ _ _ _ _ _ _ _ _ 8 _ rfl (by kernel_rfl) (by kernel_rfl) (by kernel_rfl) rfl (fun w hs => run_neOb (a := xa) (b := xb) rfl rfl) hK ?_
    refine zAs (by kernel_rfl) ?_
    clear hK
    refine zB7 rfl ?_ ?_
    ·
     intro h24
     refine zA5 (zA1 ?_)
     refine zA rfl (zA2 (v := .bool _) rfl) ?_
     refine zA4 ?_
     refine zAf ?_
     refine zBg (v := .bool _) rfl rfl ?_
     exact ⟨_, rfl, zCp (by rw [decide_eq_false (fun e => by subst e; rw [hxa] at hxb; cases hxb; simp at h24)]), hs⟩
    ·
     intro h24
     refine zAd ?_
     refine zA1 ?_
     refine zA rfl (zAp rfl rfl rfl (inI (by omega) (by omega))) ?_
     refine zA rfl (zA0 (v := .int .i64 _) rfl) ?_
     refine zA4 ?_
     exact ⟨x + 1, by omega, ⟨by omega, by rw [List.take_add_one, List.take_add_one, hxa, hxb, hq, of_decide_eq_true (zE h24)], hs⟩, ⟨rfl, trivial⟩, by repeat (first | exact Out.mix _ _ _ | refine Out.updo rfl ?_ | refine Out.upd rfl ?_ | refine Out.mixIn rfl ?_)⟩
   ·
    intro h14
    have g14 := of_decide_eq_false h14
    refine zBk rfl ?_
    refine zA5 (zA1 ?_)
    refine zA rfl (zA2 (v := .bool _) rfl) ?_
    refine zA4 ?_
    refine zAf ?_
    refine zBg (v := .bool _) rfl rfl ?_
    have h1 : x = la.length := by omega
    rw [h1, List.take_of_length_le (Nat.le_refl _), List.take_of_length_le (by omega)] at hq
    exact ⟨_, rfl, zCp (decide_eq_true hq).symm, hs⟩
theorem sameNm_sl {o : Ob} {bo : Nat} {T : TypeId} (hs : Mem g w (cells bo (obL o) T :: L)) (y : Ob) : Calls Tryz.prog 127 #[.agg (obL y).toArray, .pointer (some ⟨bo, 0, none⟩)] w (Ret fun v w' => v = .bool (decide (y.1 = o.1)) ∧ Mem g w' (cells bo (obL o) T :: L)) := by
  refine zAm Tryz.func127 rfl rfl ?_
  skip
  refine zA5 (zA1 ?_)
  refine zCd (v := .agg _) hs rfl rfl ?_
  clear hs
  intro b2 w hs
  try simp only [List.set_cons_succ, List.set_cons_zero] at hs
  refine zA rfl (zA2 (v := .bool _) rfl) ?_
  refine zA4 (zA5 (zA1 ?_))
  refine zA rfl (zA3 (o' := 0) zCx rfl sz9 rfl rfl rfl) ?_
  refine zA rfl (zA7 uz9 rfl rfl (hs.cellAt 0 rfl rfl)) ?_
  refine zA rfl (zA3 (o' := 0) zCx rfl sz9 rfl rfl rfl) ?_
  refine zA rfl (zA7 uz9 rfl rfl (hs.cellAt 1 rfl rfl)) ?_
  refine zA rfl (run_eqs rfl rfl) ?_
  refine zA rfl (zA2 (v := .bool _) rfl) ?_
  refine zA4 ?_
  refine zAf ?_
  refine zBg (v := .bool _) rfl rfl ?_
  exact ⟨_, rfl, rfl, hs.tail⟩
theorem idxO_sl {o : Ob} {bo : Nat} {T : TypeId} (hs : Mem g w (cells bo (obL o) T :: L)) {a : Option Addr} {n c : Nat} {l : List Ob} (hr : RdK g (cells bo (obL o) T :: L) 3 (.slice a n c) (l.map obL)) (hn : n = l.length) (hlen : l.length ≤ 1000000) : Calls Tryz.prog 154 #[.slice a n c, .func (.func 127) #[] #[.pointer (some ⟨bo, 0, none⟩)]] w (Ret fun v w' => ∃ r : Int, (0 ≤ r ↔ (l.any fun y => decide (y.1 = o.1)) = true) ∧ v = .int .i64 r ∧ Mem g w' (cells bo (obL o) T :: L)) := by
  subst hn
  refine zAm Tryz.func154 rfl rfl ?_
  skip
  refine zA5 (zA1 ?_)
  refine zA rfl (zA2 (v := .int .i64 _) rfl) ?_
  refine zA4 ?_
  refine zA5 ?_
  refine zA5 (zA1 ?_)
  refine zA rfl (zA0 (v := .slice _ _ _) rfl) ?_
  refine zA rfl (zAx zC rfl) ?_
  refine zA rfl (zA0 (v := .int .i64 _) rfl) ?_
  refine zA4 ?_
  refine zAt ?_
  refine zBr (X := Nat) [4, 5, 8, 9, 10, 11, 12, 13, 14, 15, 16, 17, 18] (fun k => [(8, .int .i64 (k : Nat))]) (fun k w => k ≤ l.length ∧ ((l.take k).any fun y => decide (y.1 = o.1)) = false ∧ Mem g w (cells bo (obL o) T :: L)) (fun k => l.length - k) (0) ?_ ?_ ?_
  · exact ⟨rfl, trivial⟩
  · exact ⟨Nat.zero_le _, rfl, hs⟩
  clear hs
  rintro x ξ w hI
  obtain ⟨hk, hq, hs⟩ := hI
  refine zA5 (zA1 ?_)
  refine zA rfl (zB3 rfl rfl) ?_
  refine zA4 ?_
  refine zA5 ?_
  refine zB7 rfl ?_ ?_
  ·
   intro h9
   have g9 := of_decide_eq_true h9
   obtain ⟨y, hy⟩ : ∃ y, l[x]? = some y := ⟨_, List.getElem?_eq_getElem (by omega)⟩
   obtain ⟨b1, o1, rfl⟩ := hr.at hs (by rw [zE4]; omega)
   refine zAd ?_
   refine zA5 ?_
   refine zAt ?_
   refine zA5 (zA1 ?_)
   refine zA rfl (zA0 (v := .int .i64 _) rfl) ?_
   refine zA rfl (zA2 (v := .int .i64 _) rfl) ?_
   refine zA4 (zA5 (zA1 ?_))
   refine zA rfl (zA0 (v := .func _ _ _) rfl) ?_
   refine zA rfl (zA0 (v := .slice _ _ _) rfl) ?_
   refine zA rfl (zA0 (v := .int .i64 _) rfl) ?_
   refine zA rfl (zAu zC zEm rfl rfl rfl (by omega) rfl) ?_
   refine zA rfl (zCu (cs := obL y) zCx zEm rfl (fun j v hj => hr.cell hs (obL_at hy) hj)) ?_
   refine lw_callv rfl (cap := #[.pointer (some ⟨bo, 0, none⟩)]) en127 rfl (sameNm_sl hs y) ?_
   clear hs
   rintro _ w ⟨rfl, hs⟩
   refine zA4 ?_
   refine zB7 rfl ?_ ?_
   ·
    intro h16
    refine zA5 (zA1 ?_)
    refine zA rfl (zA0 (v := .int .i64 _) rfl) ?_
    refine zA rfl (zA2 (v := .int .i64 _) rfl) ?_
    refine zA4 ?_
    refine zAf ?_
    refine zBg (v := .int .i64 _) rfl rfl ?_
    exact ⟨_, rfl, (x : Nat), ⟨fun _ => List.any_eq_true.2 ⟨y, List.mem_of_getElem? hy, h16⟩, fun _ => by omega⟩, rfl, hs⟩
   ·
    intro h16
    refine zAd ?_
    refine zA1 ?_
    refine zA rfl (zAp rfl rfl rfl (inI (by omega) (by omega))) ?_
    refine zA rfl (zA0 (v := .int .i64 _) rfl) ?_
    refine zA4 ?_
    exact ⟨x + 1, by omega, ⟨by omega, by rw [List.take_add_one, hy, List.any_append, hq]; simpa using h16, hs⟩, ⟨rfl, trivial⟩, by repeat (first | exact Out.mix _ _ _ | refine Out.updo rfl ?_ | refine Out.upd rfl ?_ | refine Out.mixIn rfl ?_)⟩
  ·
   intro h9
   have g9 := of_decide_eq_false h9
   refine zBk rfl ?_
   refine zA5 (zA1 ?_)
   refine zA rfl (zA2 (v := .int .i64 _) rfl) ?_
   refine zA4 ?_
   refine zAf ?_
   refine zBg (v := .int .i64 _) rfl rfl ?_
   have e : x = l.length := by omega
   rw [e, List.take_length] at hq
   exact ⟨_, rfl, -1, ⟨fun h => by omega, fun h => by rw [hq] at h; cases h⟩, rfl, hs⟩
theorem conO_sl {o : Ob} {bo : Nat} {T : TypeId} (hs : Mem g w (cells bo (obL o) T :: L)) {a : Option Addr} {n c : Nat} {l : List Ob} (hr : RdK g (cells bo (obL o) T :: L) 3 (.slice a n c) (l.map obL)) (hn : n = l.length) (hlen : l.length ≤ 1000000) : Calls Tryz.prog 126 #[.slice a n c, .func (.func 127) #[] #[.pointer (some ⟨bo, 0, none⟩)]] w (Ret fun v w' => v = .bool (l.any fun y => decide (y.1 = o.1)) ∧ Mem g w' (cells bo (obL o) T :: L)) := by
  refine zAm Tryz.func126 rfl rfl ?_
  skip
  refine zA5 (zA1 ?_)
  refine zA rfl (zA2 (v := .bool _) rfl) ?_
  refine zA4 (zA5 (zA1 ?_))
  refine zA rfl (zA0 (v := .slice _ _ _) rfl) ?_
  refine zA rfl (zA0 (v := .func _ _ _) rfl) ?_
  refine zAa rfl en154 (idxO_sl hs hr hn hlen) ?_
  clear hs
  rintro _ w ⟨r, hr2, rfl, hs⟩
  refine zA rfl (zD1 rfl rfl) ?_
  refine zA rfl (zA2 (v := .bool _) rfl) ?_
  refine zA4 ?_
  refine zAf ?_
  refine zBg (v := .bool _) rfl rfl ?_
  exact ⟨_, rfl, zCp (by cases h : (l.any fun y => decide (y.1 = o.1)); exact decide_eq_false (fun h2 => by rw [h] at hr2; exact absurd (hr2.1 h2) (by decide)); exact decide_eq_true (hr2.2 h)), hs⟩
end Go.Proofs.YtdkgdjnbpjjfmaaGreatDoor
namespace Go.Proofs.YtdkgdjnbpjjfmaaGreatDoor
set_option linter.all false
open Go.RowKit
attribute [local irreducible] zAo
variable {g w : World} {L M : List HP} {ad : Nat → Addr} {p : Nat}

def viewCodes : List Nat := [103, 104, 105, 106, 112, 113]
abbrev ErrV (ad : Nat → Addr) (g : World) : Prop := Errs viewCodes ad g.heap.size g
theorem risAt_eq {l : List Pr} {i : Nat} {a b : Pr} (ha : l[i - 1]? = some a) (hb : l[i]? = some b) : risAt l i = (decide (a.1 < b.1) && decide (a.2 < b.2)) := by
  simp only [risAt, List.getD_eq_getElem?_getD, ha, hb, Option.getD_some]
theorem epNew_sl (hE : ErrV ad g) (hs : Mem g w L) {a : Option Addr} {n c : Nat} {l : List Pr} (hr : RdK g L 2 (.slice a n c) (l.map prL)) (hn : n = l.length) : Calls Tryz.prog 84 #[.slice a n c] w (Ret fun v w' => ∃ q, v = .tuple #[.pointer q, zAo ad (epF l)] ∧ Mem g w' L) := by
  subst hn
  refine zAm Tryz.func84 rfl rfl ?_
  skip
  refine zA5 (zA1 ?_)
  refine zA rfl (zA2 (v := .pointer none) rfl) ?_
  refine zA rfl (zA2 (v := .nilIface) rfl) ?_
  refine zA4 ?_
  refine zA5 ?_
  refine zA5 (zA1 ?_)
  refine zA rfl (zA0 (v := .slice _ _ _) rfl) ?_
  refine zA rfl (zAx zCq rfl) ?_
  refine zA rfl (zBi rfl rfl) ?_
  refine zA4 ?_
  refine zB7 rfl ?_ ?_
  ·
   intro h7
   have g7 := of_decide_eq_true h7
   refine zA5 ?_
   refine zAw zBt hs ?_
   intro w tr hK
   replace hs := tr _ hs
   clear tr
   refine zA6 0 rfl rfl (fun w hs => zA7 zCv rfl rfl (hE.cellW hs 104 (by decide) rfl)) hK ?_
   refine zA6 1 rfl rfl (fun w hs => zA2 (v := .pointer none) rfl) hK ?_
   refine zA6 2 rfl rfl (fun w hs => zA2 (v := zAo ad _) rfl) hK ?_
   refine zAs (by kernel_rfl) ?_
   clear hK
   refine zAf ?_
   refine res2 (v := .pointer none) (v2 := zAo ad _) rfl rfl rfl ?_
   exact ⟨_, rfl, none, by rw [epF, if_pos (by omega)], hs⟩
  ·
   intro h7
   have g7 := of_decide_eq_false h7
   refine zAd ?_
   refine zA5 ?_
   refine zA5 (zA1 ?_)
   refine zA rfl (zA0 (v := .slice _ _ _) rfl) ?_
   refine zAa rfl en123 (conP_sl hs hr rfl (by omega)) ?_
   clear hs
   rintro _ w ⟨rfl, hs⟩
   refine zA4 ?_
   refine zB7 rfl ?_ ?_
   ·
    intro h10
    refine zA5 ?_
    refine zAw zBt hs ?_
    intro w tr hK
    replace hs := tr _ hs
    clear tr
    refine zA6 0 rfl rfl (fun w hs => zA7 zCv rfl rfl (hE.cellW hs 105 (by decide) rfl)) hK ?_
    refine zA6 1 rfl rfl (fun w hs => zA2 (v := .pointer none) rfl) hK ?_
    refine zA6 2 rfl rfl (fun w hs => zA2 (v := zAo ad _) rfl) hK ?_
    refine zAs (by kernel_rfl) ?_
    clear hK
    refine zAf ?_
    refine res2 (v := .pointer none) (v2 := zAo ad _) rfl rfl rfl ?_
    exact ⟨_, rfl, none, by rw [epF, if_neg (by omega), if_pos (zEl h10)], hs⟩
   ·
    intro h10
    refine zAd ?_
    refine zA5 ?_
    refine zA5 (zA1 ?_)
    refine zA rfl (zA2 (v := .int .i64 _) rfl) ?_
    refine zA4 ?_
    refine zAt ?_
    refine zBr (X := Nat) [2, 3, 4, 12, 13, 14, 15, 16, 17, 18, 19, 20, 21, 22, 23, 24, 25, 26, 27, 28, 29, 30, 31, 32, 33, 34, 35, 36, 37, 38, 39, 40, 41, 42, 43, 44] (fun k => [(4, .int .i64 (k : Nat))]) (fun k w => 1 ≤ k ∧ (∀ i, 1 ≤ i → i < k → i < l.length → risAt l i = true) ∧ Mem g w L) (fun k => l.length - k) (1) ?_ ?_ ?_
    · exact ⟨rfl, trivial⟩
    · exact ⟨Nat.le_refl _, fun i h1 h2 => by omega, hs⟩
    clear hs
    rintro x ξ w hI
    obtain ⟨hk, hq, hs⟩ := hI
    refine zA5 ?_
    refine zA5 (zA1 ?_)
    refine zA rfl (zA0 (v := .int .i64 _) rfl) ?_
    refine zA rfl (zA0 (v := .slice _ _ _) rfl) ?_
    refine zA rfl (zAx zCq rfl) ?_
    refine zA rfl (zB3 rfl rfl) ?_
    refine zA4 ?_
    refine zB7 rfl ?_ ?_
    ·
     intro h15
     have g15 := of_decide_eq_true h15
     obtain ⟨y, hy⟩ : ∃ y, l[x]? = some y := ⟨_, List.getElem?_eq_getElem (by omega)⟩
     obtain ⟨y0, hy0⟩ : ∃ y, l[x - 1]? = some y := ⟨_, List.getElem?_eq_getElem (by omega)⟩
     obtain ⟨b1, o1, rfl⟩ := hr.at hs (by rw [zDv]; omega)
     have hra := risAt_eq hy0 hy
     refine zAd ?_
     refine zA5 ?_
     refine zAt ?_
     refine zA5 ?_
     refine zAw zBt hs ?_
     intro w tr hK
     replace hs := tr _ hs
     clear tr
     refine zA6 0 rfl rfl (fun w hs => zA0 (v := .slice _ _ _) rfl) hK ?_
     refine zA6 1 rfl rfl (fun w hs => zA0 (v := .int .i64 _) rfl) hK ?_
     refine zA6 2 rfl rfl (fun w hs => zAu zCq zDx rfl rfl rfl (by omega) rfl) hK ?_
     refine zA6 3 rfl rfl (fun w hs => zA3 zDb rfl sz3 rfl rfl rfl) hK ?_
     refine zA6 4 rfl rfl (fun w hs => zA7 uz3 rfl rfl (hr.cell hs (zDm hy) (j := 0) rfl)) hK ?_
     refine zA6 5 rfl rfl (fun w hs => zA0 (v := .slice _ _ _) rfl) hK ?_
     refine zA6 6 rfl rfl (fun w hs => zA0 (v := .int .i64 _) rfl) hK ?_
     refine zA6 7 rfl rfl (fun w hs => zCs rfl rfl (c := ((x - 1 : Nat) : Int)) (by omega) (inI (by omega) (by omega))) hK ?_
     refine zA6 8 rfl rfl (fun w hs => zAu zCq zDx rfl rfl rfl (by omega) rfl) hK ?_
     refine zA6 9 rfl rfl (fun w hs => zA3 zDb rfl sz3 rfl rfl rfl) hK ?_
     refine zA6 10 rfl rfl (fun w hs => zA7 uz3 rfl rfl (hr.cell hs (zDm hy0) (j := 0) rfl)) hK ?_
     refine zA6 11 rfl rfl (fun w hs => zDo rfl rfl) hK ?_
     refine zA6 12 rfl rfl (fun w hs => zA0 (v := .bool _) rfl) hK ?_
     refine aw_split (t := _) (d := 30) rfl ?_ ?_
     ·
      intro h29
      have g29 := of_decide_eq_true h29
      refine zAe 13 rfl rfl rfl rfl h29 hK ?_
      refine zAe 14 rfl rfl rfl rfl h29 hK ?_
      refine zAe 15 rfl rfl rfl rfl h29 hK ?_
      refine zAe 16 rfl rfl rfl rfl h29 hK ?_
      refine zAe 17 rfl rfl rfl rfl h29 hK ?_
      refine zAe 18 rfl rfl rfl rfl h29 hK ?_
      refine zAe 19 rfl rfl rfl rfl h29 hK ?_
      refine zAe 20 rfl rfl rfl rfl h29 hK ?_
      refine zAe 21 rfl rfl rfl rfl h29 hK ?_
      refine zAe 22 rfl rfl rfl rfl h29 hK ?_
      refine zAe 23 rfl rfl rfl rfl h29 hK ?_
      refine zAe 24 rfl rfl rfl rfl h29 hK ?_
      refine zA6 25 rfl rfl (fun w hs => zAi (v := .bool _) rfl h29 rfl) hK ?_
      refine zAs (by kernel_rfl) ?_
      clear hK
      refine zB9 rfl rfl ?_
      refine zA5 ?_
      refine zAw zBt hs ?_
      intro w tr hK
      replace hs := tr _ hs
      clear tr
      refine zA6 0 rfl rfl (fun w hs => zA7 zCv rfl rfl (hE.cellW hs 103 (by decide) rfl)) hK ?_
      refine zA6 1 rfl rfl (fun w hs => zA2 (v := .pointer none) rfl) hK ?_
      refine zA6 2 rfl rfl (fun w hs => zA2 (v := zAo ad _) rfl) hK ?_
      refine zAs (by kernel_rfl) ?_
      clear hK
      refine zAf ?_
      refine res2 (v := .pointer none) (v2 := zAo ad _) rfl rfl rfl ?_
      exact ⟨_, rfl, none, by rw [epF, if_neg (by omega), if_neg (by rw [zE h10]; decide), if_pos (ris_no hk (by omega) (by rw [hra]; simp; omega))], hs⟩
     ·
      intro h29
      have g29 := of_decide_eq_false h29
      refine zAh 13 rfl rfl rfl rfl h29 (fun w hs => zA0 (v := .slice _ _ _) rfl) hK ?_
      refine zAh 14 rfl rfl rfl rfl h29 (fun w hs => zA0 (v := .int .i64 _) rfl) hK ?_
      refine zAh 15 rfl rfl rfl rfl h29 (fun w hs => zAu zCq zDx rfl rfl rfl (by omega) rfl) hK ?_
      refine zAh 16 rfl rfl rfl rfl h29 (fun w hs => zA3 zDb rfl sz2 rfl rfl rfl) hK ?_
      refine zAh 17 rfl rfl rfl rfl h29 (fun w hs => zA7 uz2 rfl rfl (hr.cell hs (zDm hy) (j := 1) rfl)) hK ?_
      refine zAh 18 rfl rfl rfl rfl h29 (fun w hs => zA0 (v := .slice _ _ _) rfl) hK ?_
      refine zAh 19 rfl rfl rfl rfl h29 (fun w hs => zA0 (v := .int .i64 _) rfl) hK ?_
      refine zAh 20 rfl rfl rfl rfl h29 (fun w hs => zCs rfl rfl (c := ((x - 1 : Nat) : Int)) (by omega) (inI (by omega) (by omega))) hK ?_
      refine zAh 21 rfl rfl rfl rfl h29 (fun w hs => zAu zCq zDx rfl rfl rfl (by omega) rfl) hK ?_
      refine zAh 22 rfl rfl rfl rfl h29 (fun w hs => zA3 zDb rfl sz2 rfl rfl rfl) hK ?_
      refine zAh 23 rfl rfl rfl rfl h29 (fun w hs => zA7 uz2 rfl rfl (hr.cell hs (zDm hy0) (j := 1) rfl)) hK ?_
      refine zAh 24 rfl rfl rfl rfl h29 (fun w hs => zDo rfl rfl) hK ?_
      refine zA6 25 rfl rfl (fun w hs => zAj (v := .bool _) rfl h29 rfl) hK ?_
      refine zAs (by kernel_rfl) ?_
      clear hK
      refine zB7 rfl ?_ ?_
      ·
       intro h42
       have g42 := of_decide_eq_true h42
       refine zA5 ?_
       refine zAw zBt hs ?_
       intro w tr hK
       replace hs := tr _ hs
       clear tr
       refine zA6 0 rfl rfl (fun w hs => zA7 zCv rfl rfl (hE.cellW hs 103 (by decide) rfl)) hK ?_
       refine zA6 1 rfl rfl (fun w hs => zA2 (v := .pointer none) rfl) hK ?_
       refine zA6 2 rfl rfl (fun w hs => zA2 (v := zAo ad _) rfl) hK ?_
       refine zAs (by kernel_rfl) ?_
       clear hK
       refine zAf ?_
       refine res2 (v := .pointer none) (v2 := zAo ad _) rfl rfl rfl ?_
       exact ⟨_, rfl, none, by rw [epF, if_neg (by omega), if_neg (by rw [zE h10]; decide), if_pos (ris_no hk (by omega) (by rw [hra]; simp; omega))], hs⟩
      ·
       intro h42
       have g42 := of_decide_eq_false h42
       refine zAd ?_
       refine zA1 ?_
       refine zA rfl (zA0 (v := .int .i64 _) rfl) ?_
       refine zA rfl (zAp rfl rfl rfl (inI (by omega) (by omega))) ?_
       refine zA rfl (zA2 (v := .int .i64 _) rfl) ?_
       refine zA4 ?_
       exact ⟨x + 1, by omega, ⟨by omega, (fun i h1 h2 h3 => by rcases Nat.lt_or_ge i x with h | h; exact hq i h1 h h3; obtain rfl : i = x := (by omega); rw [hra]; simp; omega), hs⟩, ⟨rfl, trivial⟩, by repeat (first | exact Out.mix _ _ _ | refine Out.updo rfl ?_ | refine Out.upd rfl ?_ | refine Out.mixIn rfl ?_)⟩
    ·
     intro h15
     have g15 := of_decide_eq_false h15
     refine zBk rfl ?_
     refine zA5 (zA1 ?_)
     refine zA rfl (zA0 (v := .slice _ _ _) rfl) ?_
     refine zAa rfl en88 (clonePr_sl hs hr rfl (by omega)) ?_
     clear hs
     rintro _ w ⟨s, rfl, hs⟩
     refine zA rfl (zBe ([.slice s.1 l.length s.2]) uz191 ze191 pl191 rfl (by simp [Value.cells]) rfl rfl) ?_
     refine zCd (v := .agg _) hs rfl rfl ?_
     clear hs
     intro b48 w hs
     try simp only [List.set_cons_succ, List.set_cons_zero] at hs
     refine zA rfl (zA2 (v := .pointer (some _)) rfl) ?_
     refine zA rfl (zA2 (v := .nilIface) rfl) ?_
     refine zA4 ?_
     refine zAf ?_
     refine res2 (v := .pointer (some _)) (v2 := .nilIface) rfl rfl rfl ?_
     exact ⟨_, rfl, some ⟨b48, 0, none⟩, by rw [epF, if_neg (by omega), if_neg (by rw [zE h10]; decide), if_neg (by rw [ris_iff.2 (fun i h1 h2 => hq i h1 (by omega) h2)]; decide), zB2], hs.tail.tail⟩
theorem dup_no {l : List Ob} {x : Nat} {y : Ob} (hy : l[x]? = some y) (h : ((l.take x).any fun u => decide (u.1 = y.1)) = true) : ¬ (l.map Prod.fst).Nodup := fun hn => by
  obtain ⟨u, hu, he⟩ := List.any_eq_true.1 h
  have he : u.1 = y.1 := of_decide_eq_true he
  obtain ⟨j, hj⟩ := List.mem_iff_getElem?.1 hu
  obtain ⟨hjl, _⟩ := List.getElem?_eq_some_iff.1 hj
  rw [List.length_take] at hjl
  rw [List.getElem?_take_of_lt (by omega)] at hj
  have h1 : (l.map Prod.fst)[j]? = some y.1 := by rw [List.getElem?_map, hj, Option.map_some, he]
  have h2 : (l.map Prod.fst)[x]? = some y.1 := by rw [List.getElem?_map, hy, Option.map_some]
  obtain ⟨g1, e1⟩ := List.getElem?_eq_some_iff.1 h1
  obtain ⟨g2, e2⟩ := List.getElem?_eq_some_iff.1 h2
  have := (List.getElem_inj hn).1 (e1.trans e2.symm)
  omega
theorem nodup_next {l : List Ob} {x : Nat} {y : Ob} (hy : l[x]? = some y) (hq : ((l.take x).map Prod.fst).Nodup) (h : ((l.take x).any fun u => decide (u.1 = y.1)) = false) : ((l.take (x + 1)).map Prod.fst).Nodup := by
  rw [List.take_add_one, hy, List.map_append, List.nodup_append]
  refine ⟨hq, by simp, fun a ha b hb e => ?_⟩
  simp only [Option.toList, List.map_cons, List.map_nil, List.mem_cons, List.not_mem_nil, or_false] at hb
  obtain ⟨u, hu, rfl⟩ := List.mem_map.1 ha
  have := List.any_eq_false.1 h u hu
  simp only [decide_eq_true_eq] at this
  exact this (e.trans hb)
theorem objects_sl (hE : ErrV ad g) (hs : Mem g w L) {a : Option Addr} {n c : Nat} {l : List Ob} (hr : RdK g L 3 (.slice a n c) (l.map obL)) (hn : n = l.length) (hlen : l.length ≤ 1000000) : Calls Tryz.prog 85 #[.slice a n c] w (Ret (RetF ad (obF l) g L)) := by
  subst hn
  refine zAm Tryz.func85 rfl rfl ?_
  skip
  refine zA5 (zA1 ?_)
  refine zA rfl (zA2 (v := .nilIface) rfl) ?_
  refine zA4 ?_
  refine zA5 ?_
  refine zA5 (zA1 ?_)
  refine zA rfl (zA0 (v := .slice _ _ _) rfl) ?_
  refine zA rfl (zAx zC rfl) ?_
  refine zA rfl (zB3 rfl rfl) ?_
  refine zA rfl (zA0 (v := .bool _) rfl) ?_
  refine zB4 (t := _) (d := 10) rfl ?_ ?_
  ·
   intro h9
   have g9 := of_decide_eq_true h9
   refine zA9 rfl rfl rfl h9 ?_
   refine zA9 rfl rfl rfl h9 ?_
   refine zA9 rfl rfl rfl h9 ?_
   refine zA rfl (zAi (v := .bool _) rfl h9 rfl) ?_
   refine zA4 ?_
   refine zB9 rfl rfl ?_
   refine zA5 (zA1 ?_)
   refine zA rfl (zA7 zCv rfl rfl (hE.cellW hs 104 (by decide) rfl)) ?_
   refine zA rfl (zA2 (v := zAo ad _) rfl) ?_
   refine zA4 ?_
   refine zAf ?_
   refine zBg (v := zAo ad _) rfl rfl ?_
   rw [obF, if_pos (by omega)]
   exact ⟨_, rfl, RetF.bare hs⟩
  ·
   intro h9
   have g9 := of_decide_eq_false h9
   refine zAk rfl rfl h9 ?_
   refine zA rfl (zA0 (v := .slice _ _ _) rfl) ?_
   refine zAk rfl rfl h9 ?_
   refine zA rfl (zAx zC rfl) ?_
   refine zAk rfl rfl h9 ?_
   refine zA rfl (zBi rfl rfl) ?_
   refine zA rfl (zAj (v := .bool _) rfl h9 rfl) ?_
   refine zA4 ?_
   refine zB7 rfl ?_ ?_
   ·
    intro h13
    have g13 := of_decide_eq_true h13
    refine zA5 (zA1 ?_)
    refine zA rfl (zA7 zCv rfl rfl (hE.cellW hs 104 (by decide) rfl)) ?_
    refine zA rfl (zA2 (v := zAo ad _) rfl) ?_
    refine zA4 ?_
    refine zAf ?_
    refine zBg (v := zAo ad _) rfl rfl ?_
    rw [obF, if_pos (by omega)]
    exact ⟨_, rfl, RetF.bare hs⟩
   ·
    intro h13
    have g13 := of_decide_eq_false h13
    refine zAd ?_
    refine zA5 ?_
    refine zA5 (zA1 ?_)
    refine zA rfl (zA0 (v := .slice _ _ _) rfl) ?_
    refine zA rfl (zAx zC rfl) ?_
    refine zA rfl (zA0 (v := .int .i64 _) rfl) ?_
    refine zA4 ?_
    refine zAt ?_
    refine zBr (X := Nat) [2, 3, 4, 18, 19, 20, 21, 22, 23, 24, 25, 26, 27, 28, 29, 30, 31, 32, 33, 34, 35, 36, 37, 38, 39, 40, 41, 42, 43, 44, 45] (fun k => [(18, .int .i64 (k : Nat))]) (fun k w => k ≤ l.length ∧ (∀ j, j < k → ∀ u, l[j]? = some u → zCy u = 0) ∧ Mem g w L) (fun k => l.length - k) (0) ?_ ?_ ?_
    · exact ⟨rfl, trivial⟩
    · exact ⟨Nat.zero_le _, fun j h => by omega, hs⟩
    clear hs
    rintro x ξ w hI
    obtain ⟨hk, hq, hs⟩ := hI
    refine zA5 (zA1 ?_)
    refine zA rfl (zB3 rfl rfl) ?_
    refine zA4 ?_
    refine zA5 ?_
    refine zB7 rfl ?_ ?_
    ·
     intro h19
     have g19 := of_decide_eq_true h19
     obtain ⟨y, hy⟩ : ∃ y, l[x]? = some y := ⟨_, List.getElem?_eq_getElem (by omega)⟩
     obtain ⟨b1, o1, rfl⟩ := hr.at hs (by rw [zE4]; omega)
     refine zAd ?_
     refine zA5 ?_
     refine zAt ?_
     refine zA5 (zA1 ?_)
     refine zA rfl (zA0 (v := .int .i64 _) rfl) ?_
     refine zA rfl (zAu zC zEm rfl rfl rfl (by omega) rfl) ?_
     refine zA rfl (zCu (cs := obL y) zCx zEm rfl (fun j v hj => hr.cell hs (obL_at hy) hj)) ?_
     refine zBh hs rfl zEy ?_
     clear hs
     intro b4 w hs
     try simp only [List.set_cons_succ, List.set_cons_zero] at hs
     refine zA rfl (zA2 (v := .int .i64 _) rfl) ?_
     refine zAq hs 0 rfl rfl rfl zEm rfl rfl ?_
     clear hs
     intro w hs
     try simp only [List.set_cons_succ, List.set_cons_zero] at hs
     refine zA4 ?_
     refine zA5 ?_
     refine zA5 (zA1 ?_)
     refine zA rfl (zA3 (o' := 0) zCx rfl sz9 rfl rfl rfl) ?_
     refine zA rfl (zA7 uz9 rfl rfl (hs.cellAt 0 rfl rfl)) ?_
     refine zAa rfl en74 (valid_sl hs y.1) ?_
     clear hs
     rintro _ w ⟨rfl, hs⟩
     refine zA rfl (zBz rfl) ?_
     refine zA4 ?_
     refine zB7 rfl ?_ ?_
     ·
      intro h25
      replace h25 := zEl h25
      refine zA5 (zA1 ?_)
      refine zA rfl (zA0 (v := .int .i64 _) rfl) ?_
      refine zA rfl (zA7 zCv rfl rfl (hE.cellW hs 106 (by decide) rfl)) ?_
      refine zA rfl (zBe [.int .i64 (x : Nat), zAo ad 106] uz109 ze109 pl109 rfl (at_one _ _) rfl rfl) ?_
      refine zCd (v := .agg _) hs rfl rfl ?_
      clear hs
      intro b30 w hs
      try simp only [List.set_cons_succ, List.set_cons_zero] at hs
      refine zA rfl (run_mkI uz104 rfl) ?_
      refine zA rfl (zA2 (v := .iface _ (.pointer (some _))) rfl) ?_
      refine zA4 ?_
      refine zAf ?_
      refine zBg (v := .iface _ (.pointer (some _))) rfl rfl ?_
      have e : zCy y = 106 := by simp [zCy, h25]
      rw [obF_bad (by omega) hy (by rw [e]; decide) hq, e]
      exact ⟨_, rfl, b30, rfl, hs.arr [0] 2 (by decide)⟩
     ·
      intro h25
      replace h25 := zE h25
      refine zAd ?_
      refine zA5 (zA1 ?_)
      refine zA rfl (zA3 (o' := 1) zCx rfl sz3 rfl rfl rfl) ?_
      refine zA rfl (zA7 uz3 rfl rfl (hs.cellAt 0 rfl rfl)) ?_
      refine zA rfl (zB3 rfl rfl) ?_
      refine zA rfl (zA0 (v := .bool _) rfl) ?_
      refine zB4 (t := _) (d := 35) rfl ?_ ?_
      ·
       intro h34
       have g34 := of_decide_eq_true h34
       refine zA9 rfl rfl rfl h34 ?_
       refine zA9 rfl rfl rfl h34 ?_
       refine zA9 rfl rfl rfl h34 ?_
       refine zA rfl (zAi (v := .bool _) rfl h34 rfl) ?_
       refine zA4 ?_
       refine zB9 rfl rfl ?_
       refine zA5 (zA1 ?_)
       refine zA rfl (zA0 (v := .int .i64 _) rfl) ?_
       refine zA rfl (zA7 zCv rfl rfl (hE.cellW hs 105 (by decide) rfl)) ?_
       refine zA rfl (zBe [.int .i64 (x : Nat), zAo ad 105] uz109 ze109 pl109 rfl (at_one _ _) rfl rfl) ?_
       refine zCd (v := .agg _) hs rfl rfl ?_
       clear hs
       intro b43 w hs
       try simp only [List.set_cons_succ, List.set_cons_zero] at hs
       refine zA rfl (run_mkI uz104 rfl) ?_
       refine zA rfl (zA2 (v := .iface _ (.pointer (some _))) rfl) ?_
       refine zA4 ?_
       refine zAf ?_
       refine zBg (v := .iface _ (.pointer (some _))) rfl rfl ?_
       have e : zCy y = 105 := by simp [zCy, h25]; omega
       rw [obF_bad (by omega) hy (by rw [e]; decide) hq, e]
       exact ⟨_, rfl, b43, rfl, hs.arr [0] 2 (by decide)⟩
      ·
       intro h34
       have g34 := of_decide_eq_false h34
       refine zAk rfl rfl h34 ?_
       refine zA rfl (zA3 (o' := 1) zCx rfl sz3 rfl rfl rfl) ?_
       refine zAk rfl rfl h34 ?_
       refine zA rfl (zA7 uz3 rfl rfl (hs.cellAt 0 rfl rfl)) ?_
       refine zAk rfl rfl h34 ?_
       refine zA rfl (zBi rfl rfl) ?_
       refine zA rfl (zAj (v := .bool _) rfl h34 rfl) ?_
       refine zA4 ?_
       refine zB7 rfl ?_ ?_
       ·
        intro h38
        have g38 := of_decide_eq_true h38
        refine zA5 (zA1 ?_)
        refine zA rfl (zA0 (v := .int .i64 _) rfl) ?_
        refine zA rfl (zA7 zCv rfl rfl (hE.cellW hs 105 (by decide) rfl)) ?_
        refine zA rfl (zBe [.int .i64 (x : Nat), zAo ad 105] uz109 ze109 pl109 rfl (at_one _ _) rfl rfl) ?_
        refine zCd (v := .agg _) hs rfl rfl ?_
        clear hs
        intro b43 w hs
        try simp only [List.set_cons_succ, List.set_cons_zero] at hs
        refine zA rfl (run_mkI uz104 rfl) ?_
        refine zA rfl (zA2 (v := .iface _ (.pointer (some _))) rfl) ?_
        refine zA4 ?_
        refine zAf ?_
        refine zBg (v := .iface _ (.pointer (some _))) rfl rfl ?_
        have e : zCy y = 105 := by simp [zCy, h25]; omega
        rw [obF_bad (by omega) hy (by rw [e]; decide) hq, e]
        exact ⟨_, rfl, b43, rfl, hs.arr [0] 2 (by decide)⟩
       ·
        intro h38
        have g38 := of_decide_eq_false h38
        refine zAd ?_
        refine zA1 ?_
        refine zA rfl (zAp rfl rfl rfl (inI (by omega) (by omega))) ?_
        refine zA rfl (zA0 (v := .int .i64 _) rfl) ?_
        refine zA4 ?_
        exact ⟨x + 1, by omega, ⟨by omega, (fun j hj u hu => by rcases Nat.lt_or_ge j x with h | h; exact hq j h u hu; obtain rfl : j = x := (by omega); rw [hy] at hu; cases hu; simp only [zCy, h25, Bool.true_eq_false, if_false]; rw [if_neg (by omega)]), hs.tail⟩, ⟨rfl, trivial⟩, by repeat (first | exact Out.mix _ _ _ | refine Out.updo rfl ?_ | refine Out.upd rfl ?_ | refine Out.mixIn rfl ?_)⟩
    ·
     intro h19
     have g19 := of_decide_eq_false h19
     have hall : ∀ (j : Nat) (u : Ob), l[j]? = some u → zCy u = 0 := fun j u hu => hq j (by have := (List.getElem?_eq_some_iff.1 hu).1; omega) u hu
     refine zBk rfl ?_
     refine zA5 ?_
     refine zA5 (zA1 ?_)
     refine zA rfl (zA0 (v := .slice _ _ _) rfl) ?_
     refine zA rfl (zAx zC rfl) ?_
     refine zA rfl (zA0 (v := .int .i64 _) rfl) ?_
     refine zA4 ?_
     refine zAt ?_
     refine zBr (X := Nat) [2, 5, 6, 48, 49, 50, 51, 52, 53, 54, 55, 56, 57, 58, 59] (fun k => [(48, .int .i64 (k : Nat))]) (fun k w => k ≤ l.length ∧ ((l.take k).map Prod.fst).Nodup ∧ Mem g w L) (fun k => l.length - k) (0) ?_ ?_ ?_
     · exact ⟨rfl, trivial⟩
     · exact ⟨Nat.zero_le _, by simp, hs⟩
     clear hs
     rintro x ξ w hI
     obtain ⟨hk1, hq1, hs⟩ := hI
     refine zA5 (zA1 ?_)
     refine zA rfl (zB3 rfl rfl) ?_
     refine zA4 ?_
     refine zA5 ?_
     refine zB7 rfl ?_ ?_
     ·
      intro h49
      have g49 := of_decide_eq_true h49
      have hs0 := hs
      obtain ⟨y, hy⟩ : ∃ y, l[x]? = some y := ⟨_, List.getElem?_eq_getElem (by omega)⟩
      obtain ⟨b1, o1, rfl⟩ := hr.at hs (by rw [zE4]; omega)
      refine zAd ?_
      refine zA5 ?_
      refine zAt ?_
      refine zA5 (zA1 ?_)
      refine zA rfl (zA0 (v := .int .i64 _) rfl) ?_
      refine zA rfl (zAu zC zEm rfl rfl rfl (by omega) rfl) ?_
      refine zA rfl (zCu (cs := obL y) zCx zEm rfl (fun j v hj => hr.cell hs (obL_at hy) hj)) ?_
      refine zBh hs rfl zEy ?_
      clear hs
      intro b6 w hs
      try simp only [List.set_cons_succ, List.set_cons_zero] at hs
      refine zA rfl (zA2 (v := .int .i64 _) rfl) ?_
      refine zAq hs 0 rfl rfl rfl zEm rfl rfl ?_
      clear hs
      intro w hs
      try simp only [List.set_cons_succ, List.set_cons_zero] at hs
      refine zA4 (zA5 (zA1 ?_))
      refine zA rfl (zA0 (v := .slice _ _ _) rfl) ?_
      refine zA rfl (zA0 (v := .int .i64 _) rfl) ?_
      refine zA rfl (run_sliceToK zC zEm rfl rfl (hi := x) rfl (by have := hr.cap hs0; omega) (.inr ⟨b1, o1, rfl⟩)) ?_
      refine zA rfl (zDi) ?_
      refine zAa rfl en126 (conO_sl (l := l.take x) (o := y) hs (by rw [List.map_take]; exact hr.cons.take (by omega)) (by rw [List.length_take]; omega) (by rw [List.length_take]; omega)) ?_
      clear hs
      rintro _ w ⟨rfl, hs⟩
      refine zA4 ?_
      refine zB7 rfl ?_ ?_
      ·
       intro h57
       refine zA5 (zA1 ?_)
       refine zA rfl (zA7 zCv rfl rfl (hE.cellW hs 103 (by decide) rfl)) ?_
       refine zA rfl (zA2 (v := zAo ad _) rfl) ?_
       refine zA4 ?_
       refine zAf ?_
       refine zBg (v := zAo ad _) rfl rfl ?_
       rw [obF_fine (by omega) hall, if_neg (dup_no hy h57)]
       exact ⟨_, rfl, RetF.bare hs.tail⟩
      ·
       intro h57
       refine zAd ?_
       refine zA1 ?_
       refine zA rfl (zAp rfl rfl rfl (inI (by omega) (by omega))) ?_
       refine zA rfl (zA0 (v := .int .i64 _) rfl) ?_
       refine zA4 ?_
       exact ⟨x + 1, by omega, ⟨by omega, nodup_next hy hq1 h57, hs.tail⟩, ⟨rfl, trivial⟩, by repeat (first | exact Out.mix _ _ _ | refine Out.updo rfl ?_ | refine Out.upd rfl ?_ | refine Out.mixIn rfl ?_)⟩
     ·
      intro h49
      have g49 := of_decide_eq_false h49
      refine zBk rfl ?_
      refine zA5 (zA1 ?_)
      refine zA rfl (zA2 (v := .nilIface) rfl) ?_
      refine zA4 ?_
      refine zAf ?_
      refine zBg (v := .nilIface) rfl rfl ?_
      have e : x = l.length := by omega
      rw [e, List.take_length] at hq1
      rw [obF_fine (by omega) hall, if_pos hq1]
      exact ⟨_, rfl, by rw [← zB2 ad]; exact RetF.bare hs⟩
end Go.Proofs.YtdkgdjnbpjjfmaaGreatDoor
namespace Go.Proofs.YtdkgdjnbpjjfmaaGreatDoor
set_option linter.all false
open Go.RowKit
attribute [local irreducible] zAo
variable {g w : World} {L M : List HP} {ad : Nat → Addr}

def textsL (l : List ByteArray) : List Value := l.map Value.string
end Go.Proofs.YtdkgdjnbpjjfmaaGreatDoor
namespace Go.Proofs.YtdkgdjnbpjjfmaaGreatDoor
set_option linter.all false
open Go.RowKit
attribute [local irreducible] zAo
variable {g w : World} {L M : List HP} {ad : Nat → Addr} {p : Nat}

/-- A pair by its place. -/
theorem pr_get {l : List Pr} {i : Nat} {y : Pr} (h : l[i]? = some y) : l.getD i (0, 0) = y := by rw [List.getD_eq_getElem?_getD, h]; rfl
theorem epF_len {l : List Pr} (h : epF l = 0) : l.length ≤ 256 := by
  unfold epF at h
  split at h
  · cases h
  · omega
theorem validM_sl (hE : ErrV ad g) (hs : Mem g w L) {x : Mf} {e o : SA} (hm : MfR g L x e o) (hob : x.obs.length ≤ 1000000) : Calls Tryz.prog 40 #[.agg (mfL x e o).toArray] w (Ret (RetF ad (mfF x) g L)) := by
  obtain ⟨ea, ec⟩ := e
  refine zAm Tryz.func40 rfl rfl ?_
  skip
  refine zA5 (zA1 ?_)
  refine zCd (v := .agg _) hs rfl rfl ?_
  clear hs
  intro b1 w hs
  try simp only [List.set_cons_succ, List.set_cons_zero] at hs
  refine zA rfl (zA2 (v := .nilIface) rfl) ?_
  refine zA4 (zA5 (zA1 ?_))
  refine zA rfl (zA2 (v := .func _ _ _) rfl) ?_
  refine zA4 ?_
  refine zA5 ?_
  refine zA5 (zA1 ?_)
  refine zA rfl (zA3 (o' := 0) zBx rfl sz3 rfl rfl rfl) ?_
  refine zA rfl (zA7 uz3 rfl rfl (hs.cellAt 0 rfl rfl)) ?_
  refine zA rfl (zB3 rfl rfl) ?_
  refine zA rfl (zA0 (v := .bool _) rfl) ?_
  refine zB4 (t := _) (d := 10) rfl ?_ ?_
  ·
   intro h9
   have g9 := of_decide_eq_true h9
   refine zA9 rfl rfl rfl h9 ?_
   refine zA9 rfl rfl rfl h9 ?_
   refine zA9 rfl rfl rfl h9 ?_
   refine zA rfl (zAi (v := .bool _) rfl h9 rfl) ?_
   refine zA rfl (zA0 (v := .bool _) rfl) ?_
   refine zA9 rfl rfl rfl rfl ?_
   refine zA9 rfl rfl rfl rfl ?_
   refine zA9 rfl rfl rfl rfl ?_
   refine zA9 rfl rfl rfl rfl ?_
   refine zA9 rfl rfl rfl rfl ?_
   refine zA rfl (zAi (v := .bool _) rfl rfl rfl) ?_
   refine zA rfl (zA0 (v := .bool _) rfl) ?_
   refine zA9 rfl rfl rfl rfl ?_
   refine zA9 rfl rfl rfl rfl ?_
   refine zA9 rfl rfl rfl rfl ?_
   refine zA9 rfl rfl rfl rfl ?_
   refine zA9 rfl rfl rfl rfl ?_
   refine zA rfl (zAi (v := .bool _) rfl rfl rfl) ?_
   refine zA rfl (zA0 (v := .bool _) rfl) ?_
   refine zA9 rfl rfl rfl rfl ?_
   refine zA9 rfl rfl rfl rfl ?_
   refine zA9 rfl rfl rfl rfl ?_
   refine zA rfl (zAi (v := .bool _) rfl rfl rfl) ?_
   refine zA rfl (zA0 (v := .bool _) rfl) ?_
   refine zA9 rfl rfl rfl rfl ?_
   refine zA9 rfl rfl rfl rfl ?_
   refine zA9 rfl rfl rfl rfl ?_
   refine zA rfl (zAi (v := .bool _) rfl rfl rfl) ?_
   refine zA rfl (zA0 (v := .bool _) rfl) ?_
   refine zA9 rfl rfl rfl rfl ?_
   refine zA9 rfl rfl rfl rfl ?_
   refine zA9 rfl rfl rfl rfl ?_
   refine zA9 rfl rfl rfl rfl ?_
   refine zA9 rfl rfl rfl rfl ?_
   refine zA rfl (zAi (v := .bool _) rfl rfl rfl) ?_
   refine zA4 ?_
   refine zB9 rfl rfl ?_
   refine zA5 (zA1 ?_)
   refine zA rfl (zA7 zCv rfl rfl (hE.cellW hs 105 (by decide) rfl)) ?_
   refine zA rfl (zA2 (v := zAo ad _) rfl) ?_
   refine zA4 ?_
   refine zAf ?_
   refine zBg (v := zAo ad _) rfl rfl ?_
   have hr : zBd x = true := by simp [zBd, *]
   rw [mfF, if_pos hr]
   exact ⟨_, rfl, RetF.bare hs.tail⟩
  ·
   intro h9
   have g9 := of_decide_eq_false h9
   refine zAk rfl rfl h9 ?_
   refine zA rfl (zA3 (o' := 0) zBx rfl sz3 rfl rfl rfl) ?_
   refine zAk rfl rfl h9 ?_
   refine zA rfl (zA7 uz3 rfl rfl (hs.cellAt 0 rfl rfl)) ?_
   refine zAk rfl rfl h9 ?_
   refine zA rfl (zBi rfl rfl) ?_
   refine zA rfl (zAj (v := .bool _) rfl h9 rfl) ?_
   refine zA rfl (zA0 (v := .bool _) rfl) ?_
   refine zB4 (t := _) (d := 15) rfl ?_ ?_
   ·
    intro h13
    have g13 := of_decide_eq_true h13
    refine zA9 rfl rfl rfl h13 ?_
    refine zA9 rfl rfl rfl h13 ?_
    refine zA9 rfl rfl rfl h13 ?_
    refine zA9 rfl rfl rfl h13 ?_
    refine zA9 rfl rfl rfl h13 ?_
    refine zA rfl (zAi (v := .bool _) rfl h13 rfl) ?_
    refine zA rfl (zA0 (v := .bool _) rfl) ?_
    refine zA9 rfl rfl rfl rfl ?_
    refine zA9 rfl rfl rfl rfl ?_
    refine zA9 rfl rfl rfl rfl ?_
    refine zA9 rfl rfl rfl rfl ?_
    refine zA9 rfl rfl rfl rfl ?_
    refine zA rfl (zAi (v := .bool _) rfl rfl rfl) ?_
    refine zA rfl (zA0 (v := .bool _) rfl) ?_
    refine zA9 rfl rfl rfl rfl ?_
    refine zA9 rfl rfl rfl rfl ?_
    refine zA9 rfl rfl rfl rfl ?_
    refine zA rfl (zAi (v := .bool _) rfl rfl rfl) ?_
    refine zA rfl (zA0 (v := .bool _) rfl) ?_
    refine zA9 rfl rfl rfl rfl ?_
    refine zA9 rfl rfl rfl rfl ?_
    refine zA9 rfl rfl rfl rfl ?_
    refine zA rfl (zAi (v := .bool _) rfl rfl rfl) ?_
    refine zA rfl (zA0 (v := .bool _) rfl) ?_
    refine zA9 rfl rfl rfl rfl ?_
    refine zA9 rfl rfl rfl rfl ?_
    refine zA9 rfl rfl rfl rfl ?_
    refine zA9 rfl rfl rfl rfl ?_
    refine zA9 rfl rfl rfl rfl ?_
    refine zA rfl (zAi (v := .bool _) rfl rfl rfl) ?_
    refine zA4 ?_
    refine zB9 rfl rfl ?_
    refine zA5 (zA1 ?_)
    refine zA rfl (zA7 zCv rfl rfl (hE.cellW hs 105 (by decide) rfl)) ?_
    refine zA rfl (zA2 (v := zAo ad _) rfl) ?_
    refine zA4 ?_
    refine zAf ?_
    refine zBg (v := zAo ad _) rfl rfl ?_
    have hr : zBd x = true := by simp [zBd, *]
    rw [mfF, if_pos hr]
    exact ⟨_, rfl, RetF.bare hs.tail⟩
   ·
    intro h13
    have g13 := of_decide_eq_false h13
    refine zAk rfl rfl h13 ?_
    refine zA rfl (zA0 (v := .func _ _ _) rfl) ?_
    refine zAk rfl rfl h13 ?_
    refine zA rfl (zA3 (o' := 1) zBx rfl sz2 rfl rfl rfl) ?_
    refine zAk rfl rfl h13 ?_
    refine zA rfl (zA7 uz2 rfl rfl (hs.cellAt 0 rfl rfl)) ?_
    refine zAk rfl rfl h13 ?_
    refine lw_callv rfl (cap := #[]) en83 rfl (right_sl hs x.base) ?_
    clear hs
    rintro _ w ⟨rfl, hs⟩
    refine zAk rfl rfl h13 ?_
    refine zA rfl (zBz rfl) ?_
    refine zA rfl (zAj (v := .bool _) rfl h13 rfl) ?_
    refine zA rfl (zA0 (v := .bool _) rfl) ?_
    refine zB4 (t := _) (d := 22) rfl ?_ ?_
    ·
     intro h19
     replace h19 := zEl h19
     refine zA9 rfl rfl rfl (zC7 h19) ?_
     refine zA9 rfl rfl rfl (zC7 h19) ?_
     refine zA9 rfl rfl rfl (zC7 h19) ?_
     refine zA9 rfl rfl rfl (zC7 h19) ?_
     refine zA9 rfl rfl rfl (zC7 h19) ?_
     refine zA rfl (zAi (v := .bool _) rfl (zC7 h19) rfl) ?_
     refine zA rfl (zA0 (v := .bool _) rfl) ?_
     refine zA9 rfl rfl rfl rfl ?_
     refine zA9 rfl rfl rfl rfl ?_
     refine zA9 rfl rfl rfl rfl ?_
     refine zA rfl (zAi (v := .bool _) rfl rfl rfl) ?_
     refine zA rfl (zA0 (v := .bool _) rfl) ?_
     refine zA9 rfl rfl rfl rfl ?_
     refine zA9 rfl rfl rfl rfl ?_
     refine zA9 rfl rfl rfl rfl ?_
     refine zA rfl (zAi (v := .bool _) rfl rfl rfl) ?_
     refine zA rfl (zA0 (v := .bool _) rfl) ?_
     refine zA9 rfl rfl rfl rfl ?_
     refine zA9 rfl rfl rfl rfl ?_
     refine zA9 rfl rfl rfl rfl ?_
     refine zA9 rfl rfl rfl rfl ?_
     refine zA9 rfl rfl rfl rfl ?_
     refine zA rfl (zAi (v := .bool _) rfl rfl rfl) ?_
     refine zA4 ?_
     refine zB9 rfl rfl ?_
     refine zA5 (zA1 ?_)
     refine zA rfl (zA7 zCv rfl rfl (hE.cellW hs 105 (by decide) rfl)) ?_
     refine zA rfl (zA2 (v := zAo ad _) rfl) ?_
     refine zA4 ?_
     refine zAf ?_
     refine zBg (v := zAo ad _) rfl rfl ?_
     have hr : zBd x = true := by simp [zBd, *]
     rw [mfF, if_pos hr]
     exact ⟨_, rfl, RetF.bare hs.tail⟩
    ·
     intro h19
     replace h19 := zE h19
     refine zAk rfl rfl (zBu h19) ?_
     refine zA rfl (zA0 (v := .func _ _ _) rfl) ?_
     refine zAk rfl rfl (zBu h19) ?_
     refine zA rfl (zA3 (o' := 2) zBx rfl sz2 rfl rfl rfl) ?_
     refine zAk rfl rfl (zBu h19) ?_
     refine zA rfl (zA7 uz2 rfl rfl (hs.cellAt 0 rfl rfl)) ?_
     refine zAk rfl rfl (zBu h19) ?_
     refine lw_callv rfl (cap := #[]) en83 rfl (right_sl hs x.fin) ?_
     clear hs
     rintro _ w ⟨rfl, hs⟩
     refine zAk rfl rfl (zBu h19) ?_
     refine zA rfl (zBz rfl) ?_
     refine zA rfl (zAj (v := .bool _) rfl (zBu h19) rfl) ?_
     refine zA rfl (zA0 (v := .bool _) rfl) ?_
     refine zB4 (t := _) (d := 29) rfl ?_ ?_
     ·
      intro h26
      replace h26 := zEl h26
      refine zA9 rfl rfl rfl (zC7 h26) ?_
      refine zA9 rfl rfl rfl (zC7 h26) ?_
      refine zA9 rfl rfl rfl (zC7 h26) ?_
      refine zA rfl (zAi (v := .bool _) rfl (zC7 h26) rfl) ?_
      refine zA rfl (zA0 (v := .bool _) rfl) ?_
      refine zA9 rfl rfl rfl rfl ?_
      refine zA9 rfl rfl rfl rfl ?_
      refine zA9 rfl rfl rfl rfl ?_
      refine zA rfl (zAi (v := .bool _) rfl rfl rfl) ?_
      refine zA rfl (zA0 (v := .bool _) rfl) ?_
      refine zA9 rfl rfl rfl rfl ?_
      refine zA9 rfl rfl rfl rfl ?_
      refine zA9 rfl rfl rfl rfl ?_
      refine zA9 rfl rfl rfl rfl ?_
      refine zA9 rfl rfl rfl rfl ?_
      refine zA rfl (zAi (v := .bool _) rfl rfl rfl) ?_
      refine zA4 ?_
      refine zB9 rfl rfl ?_
      refine zA5 (zA1 ?_)
      refine zA rfl (zA7 zCv rfl rfl (hE.cellW hs 105 (by decide) rfl)) ?_
      refine zA rfl (zA2 (v := zAo ad _) rfl) ?_
      refine zA4 ?_
      refine zAf ?_
      refine zBg (v := zAo ad _) rfl rfl ?_
      have hr : zBd x = true := by simp [zBd, *]
      rw [mfF, if_pos hr]
      exact ⟨_, rfl, RetF.bare hs.tail⟩
     ·
      intro h26
      replace h26 := zE h26
      refine zAk rfl rfl (zBu h26) ?_
      refine zA rfl (zA3 (o' := 3) zBx rfl sz2 rfl rfl rfl) ?_
      refine zAk rfl rfl (zBu h26) ?_
      refine zA rfl (zA7 uz2 rfl rfl (hs.cellAt 0 rfl rfl)) ?_
      refine zAk rfl rfl (zBu h26) ?_
      refine zA rfl (zB3 rfl rfl) ?_
      refine zA rfl (zAj (v := .bool _) rfl (zBu h26) rfl) ?_
      refine zA rfl (zA0 (v := .bool _) rfl) ?_
      refine zB4 (t := _) (d := 34) rfl ?_ ?_
      ·
       intro h32
       have g32 := of_decide_eq_true h32
       refine zA9 rfl rfl rfl h32 ?_
       refine zA9 rfl rfl rfl h32 ?_
       refine zA9 rfl rfl rfl h32 ?_
       refine zA rfl (zAi (v := .bool _) rfl h32 rfl) ?_
       refine zA rfl (zA0 (v := .bool _) rfl) ?_
       refine zA9 rfl rfl rfl rfl ?_
       refine zA9 rfl rfl rfl rfl ?_
       refine zA9 rfl rfl rfl rfl ?_
       refine zA9 rfl rfl rfl rfl ?_
       refine zA9 rfl rfl rfl rfl ?_
       refine zA rfl (zAi (v := .bool _) rfl rfl rfl) ?_
       refine zA4 ?_
       refine zB9 rfl rfl ?_
       refine zA5 (zA1 ?_)
       refine zA rfl (zA7 zCv rfl rfl (hE.cellW hs 105 (by decide) rfl)) ?_
       refine zA rfl (zA2 (v := zAo ad _) rfl) ?_
       refine zA4 ?_
       refine zAf ?_
       refine zBg (v := zAo ad _) rfl rfl ?_
       have hr : zBd x = true := by simp [zBd, *]
       rw [mfF, if_pos hr]
       exact ⟨_, rfl, RetF.bare hs.tail⟩
      ·
       intro h32
       have g32 := of_decide_eq_false h32
       refine zAk rfl rfl h32 ?_
       refine zA rfl (zA3 (o' := 3) zBx rfl sz2 rfl rfl rfl) ?_
       refine zAk rfl rfl h32 ?_
       refine zA rfl (zA7 uz2 rfl rfl (hs.cellAt 0 rfl rfl)) ?_
       refine zAk rfl rfl h32 ?_
       refine zA rfl (zBi rfl rfl) ?_
       refine zA rfl (zAj (v := .bool _) rfl h32 rfl) ?_
       refine zA rfl (zA0 (v := .bool _) rfl) ?_
       refine zB4 (t := _) (d := 39) rfl ?_ ?_
       ·
        intro h37
        have g37 := of_decide_eq_true h37
        refine zA9 rfl rfl rfl h37 ?_
        refine zA9 rfl rfl rfl h37 ?_
        refine zA9 rfl rfl rfl h37 ?_
        refine zA9 rfl rfl rfl h37 ?_
        refine zA9 rfl rfl rfl h37 ?_
        refine zA rfl (zAi (v := .bool _) rfl h37 rfl) ?_
        refine zA4 ?_
        refine zB9 rfl rfl ?_
        refine zA5 (zA1 ?_)
        refine zA rfl (zA7 zCv rfl rfl (hE.cellW hs 105 (by decide) rfl)) ?_
        refine zA rfl (zA2 (v := zAo ad _) rfl) ?_
        refine zA4 ?_
        refine zAf ?_
        refine zBg (v := zAo ad _) rfl rfl ?_
        have hr : zBd x = true := by simp [zBd, *]
        rw [mfF, if_pos hr]
        exact ⟨_, rfl, RetF.bare hs.tail⟩
       ·
        intro h37
        have g37 := of_decide_eq_false h37
        refine zAk rfl rfl h37 ?_
        refine zA rfl (zA3 (o' := 2) zBx rfl sz2 rfl rfl rfl) ?_
        refine zAk rfl rfl h37 ?_
        refine zA rfl (zA7 uz2 rfl rfl (hs.cellAt 0 rfl rfl)) ?_
        refine zAk rfl rfl h37 ?_
        refine zA rfl (zA3 (o' := 1) zBx rfl sz2 rfl rfl rfl) ?_
        refine zAk rfl rfl h37 ?_
        refine zA rfl (zA7 uz2 rfl rfl (hs.cellAt 0 rfl rfl)) ?_
        refine zAk rfl rfl h37 ?_
        refine zA rfl (zDo rfl rfl) ?_
        refine zA rfl (zAj (v := .bool _) rfl h37 rfl) ?_
        refine zA4 ?_
        refine zB7 rfl ?_ ?_
        ·
         intro h44
         have g44 := of_decide_eq_true h44
         refine zA5 (zA1 ?_)
         refine zA rfl (zA7 zCv rfl rfl (hE.cellW hs 105 (by decide) rfl)) ?_
         refine zA rfl (zA2 (v := zAo ad _) rfl) ?_
         refine zA4 ?_
         refine zAf ?_
         refine zBg (v := zAo ad _) rfl rfl ?_
         have hr : zBd x = true := by simp [zBd, *]
         rw [mfF, if_pos hr]
         exact ⟨_, rfl, RetF.bare hs.tail⟩
        ·
         intro h44
         have g44 := of_decide_eq_false h44
         refine zAd ?_
         refine zA5 ?_
         refine zA5 (zA1 ?_)
         refine zA rfl (zA3 (o' := 4) zBx rfl sz36 rfl rfl rfl) ?_
         refine zA rfl (zA7 zCq rfl rfl (hs.cellAt 0 rfl rfl)) ?_
         refine zAa rfl en84 (epNew_sl hE hs hm.eps.cons rfl) ?_
         clear hs
         rintro _ w ⟨q, rfl, hs⟩
         refine zA rfl (zA0 (v := .tuple _) rfl) ?_
         refine zA rfl (zAc (v := .pointer _) rfl rfl) ?_
         refine zA rfl (zAc (v := zAo ad _) rfl rfl) ?_
         refine zA rfl (zA2 (v := .pointer _) rfl) ?_
         refine zA rfl (zA2 (v := zAo ad _) rfl) ?_
         refine zA4 (zA5 (zA1 ?_))
         refine zA rfl (zA0 (v := zAo ad _) rfl) ?_
         refine zA rfl (zAy (ad := ad) rfl) ?_
         refine zA4 ?_
         refine zB7 rfl ?_ ?_
         ·
          intro h54
          have g54 := ne_t h54
          refine zA5 (zA1 ?_)
          refine zA rfl (zA0 (v := zAo ad _) rfl) ?_
          refine zA rfl (zA2 (v := zAo ad _) rfl) ?_
          refine zA4 ?_
          refine zAf ?_
          refine zBg (v := zAo ad _) rfl rfl ?_
          have hr : zBd x = false := by simp [zBd, *]
          have hep : epF x.eps ≠ 0 := by simpa using h54
          rw [mfF, if_neg (by rw [hr]; decide), if_pos hep]
          exact ⟨_, rfl, RetF.bare hs.tail⟩
         ·
          intro h54
          have g54 := ne_f h54
          refine zAd ?_
          refine zA5 ?_
          refine zA5 (zA1 ?_)
          refine zA rfl (zA3 (o' := 4) zBx rfl sz36 rfl rfl rfl) ?_
          refine zA rfl (zA7 zCq rfl rfl (hs.cellAt 0 rfl rfl)) ?_
          refine zA rfl (zAx zCq rfl) ?_
          refine zA rfl (zA2 (v := .int .i64 _) rfl) ?_
          refine zA4 ?_
          refine zA5 ?_
          refine zAw zBt hs ?_
          intro w tr hK
          replace hs := tr _ hs
          clear tr
          refine zA6 0 rfl rfl (fun w hs => zA0 (v := .int .i64 _) rfl) hK ?_
          refine zA6 1 rfl rfl (fun w hs => zBq rfl rfl) hK ?_
          refine zA6 2 rfl rfl (fun w hs => zA0 (v := .bool _) rfl) hK ?_
          refine aw_split (t := _) (d := 61) rfl ?_ ?_
          ·
           intro h60
           have g60 := of_decide_eq_true h60
           refine zAe 3 rfl rfl rfl rfl h60 hK ?_
           refine zAe 4 rfl rfl rfl rfl h60 hK ?_
           refine zAe 5 rfl rfl rfl rfl h60 hK ?_
           refine zAe 6 rfl rfl rfl rfl h60 hK ?_
           refine zAe 7 rfl rfl rfl rfl h60 hK ?_
           refine zAe 8 rfl rfl rfl rfl h60 hK ?_
           refine zAe 9 rfl rfl rfl rfl h60 hK ?_
           refine zAe 10 rfl rfl rfl rfl h60 hK ?_
           refine zA6 11 rfl rfl (fun w hs => zAi (v := .bool _) rfl h60 rfl) hK ?_
           refine zA6 12 rfl rfl (fun w hs => zA0 (v := .bool _) rfl) hK ?_
           refine zAe 13 rfl rfl rfl rfl rfl hK ?_
           refine zAe 14 rfl rfl rfl rfl rfl hK ?_
           refine zAe 15 rfl rfl rfl rfl rfl hK ?_
           refine zAe 16 rfl rfl rfl rfl rfl hK ?_
           refine zAe 17 rfl rfl rfl rfl rfl hK ?_
           refine zAe 18 rfl rfl rfl rfl rfl hK ?_
           refine zAe 19 rfl rfl rfl rfl rfl hK ?_
           refine zAe 20 rfl rfl rfl rfl rfl hK ?_
           refine zAe 21 rfl rfl rfl rfl rfl hK ?_
           refine zAe 22 rfl rfl rfl rfl rfl hK ?_
           refine zA6 23 rfl rfl (fun w hs => zAi (v := .bool _) rfl rfl rfl) hK ?_
           refine zAs (by kernel_rfl) ?_
           clear hK
           refine zB9 rfl rfl ?_
           refine zA5 (zA1 ?_)
           refine zA rfl (zA7 zCv rfl rfl (hE.cellW hs 103 (by decide) rfl)) ?_
           refine zA rfl (zA2 (v := zAo ad _) rfl) ?_
           refine zA4 ?_
           refine zAf ?_
           refine zBg (v := zAo ad _) rfl rfl ?_
           have hr : zBd x = false := by simp [zBd, *]
           have hep : ¬ epF x.eps ≠ 0 := by simpa using h54
           have hsb : zD2 x = true := by rw [zD2, decide_eq_true (show x.eps.length = 0 by omega)]; rfl
           rw [mfF, if_neg (by rw [hr]; decide), if_neg hep, if_pos hsb]
           exact ⟨_, rfl, RetF.bare hs.tail⟩
          ·
           intro h60
           have g60 := of_decide_eq_false h60
           obtain ⟨y0, hy0⟩ : ∃ y, x.eps[0]? = some y := ⟨_, List.getElem?_eq_getElem (by omega)⟩
           obtain ⟨y1, hy1⟩ : ∃ y, x.eps[x.eps.length - 1]? = some y := ⟨_, List.getElem?_eq_getElem (by omega)⟩
           obtain ⟨b1, o1, rfl⟩ := hm.eps.cons.at hs (by rw [zDv]; omega)
           have hlen := epF_len (show epF x.eps = 0 by simpa using h54)
           refine zAh 3 rfl rfl rfl rfl h60 (fun w hs => zA3 (o' := 4) zBx rfl sz36 rfl rfl rfl) hK ?_
           refine zAh 4 rfl rfl rfl rfl h60 (fun w hs => zA7 zCq rfl rfl (hs.cellAt 0 rfl rfl)) hK ?_
           refine zAh 5 rfl rfl rfl rfl h60 (fun w hs => zAu zCq zDx rfl rfl (i := 0) rfl (by omega) rfl) hK ?_
           refine zAh 6 rfl rfl rfl rfl h60 (fun w hs => zA3 zDb rfl sz2 rfl rfl rfl) hK ?_
           refine zAh 7 rfl rfl rfl rfl h60 (fun w hs => zA7 uz2 rfl rfl (hm.eps.cons.cell hs (zDm hy0) (j := 1) rfl)) hK ?_
           refine zAh 8 rfl rfl rfl rfl h60 (fun w hs => zA3 (o' := 1) zBx rfl sz2 rfl rfl rfl) hK ?_
           refine zAh 9 rfl rfl rfl rfl h60 (fun w hs => zA7 uz2 rfl rfl (hs.cellAt 0 rfl rfl)) hK ?_
           refine zAh 10 rfl rfl rfl rfl h60 (fun w hs => zE6 rfl rfl) hK ?_
           refine zA6 11 rfl rfl (fun w hs => zAj (v := .bool _) rfl h60 rfl) hK ?_
           refine zA6 12 rfl rfl (fun w hs => zA0 (v := .bool _) rfl) hK ?_
           refine aw_split (t := _) (d := 71) rfl ?_ ?_
           ·
            intro h69
            have g69 := ne_t h69
            refine zAe 13 rfl rfl rfl rfl h69 hK ?_
            refine zAe 14 rfl rfl rfl rfl h69 hK ?_
            refine zAe 15 rfl rfl rfl rfl h69 hK ?_
            refine zAe 16 rfl rfl rfl rfl h69 hK ?_
            refine zAe 17 rfl rfl rfl rfl h69 hK ?_
            refine zAe 18 rfl rfl rfl rfl h69 hK ?_
            refine zAe 19 rfl rfl rfl rfl h69 hK ?_
            refine zAe 20 rfl rfl rfl rfl h69 hK ?_
            refine zAe 21 rfl rfl rfl rfl h69 hK ?_
            refine zAe 22 rfl rfl rfl rfl h69 hK ?_
            refine zA6 23 rfl rfl (fun w hs => zAi (v := .bool _) rfl h69 rfl) hK ?_
            refine zAs (by kernel_rfl) ?_
            clear hK
            refine zB9 rfl rfl ?_
            refine zA5 (zA1 ?_)
            refine zA rfl (zA7 zCv rfl rfl (hE.cellW hs 103 (by decide) rfl)) ?_
            refine zA rfl (zA2 (v := zAo ad _) rfl) ?_
            refine zA4 ?_
            refine zAf ?_
            refine zBg (v := zAo ad _) rfl rfl ?_
            have hr : zBd x = false := by simp [zBd, *]
            have hep : ¬ epF x.eps ≠ 0 := by simpa using h54
            have hsb : zD2 x = true := by simp only [zD2, pr_get hy0, pr_get hy1]; simp; omega
            rw [mfF, if_neg (by rw [hr]; decide), if_neg hep, if_pos hsb]
            exact ⟨_, rfl, RetF.bare hs.tail⟩
           ·
            intro h69
            have g69 := ne_f h69
            refine zAh 13 rfl rfl rfl rfl h69 (fun w hs => zA3 (o' := 4) zBx rfl sz36 rfl rfl rfl) hK ?_
            refine zAh 14 rfl rfl rfl rfl h69 (fun w hs => zA7 zCq rfl rfl (hs.cellAt 0 rfl rfl)) hK ?_
            refine zAh 15 rfl rfl rfl rfl h69 (fun w hs => zA0 (v := .int .i64 _) rfl) hK ?_
            refine zAh 16 rfl rfl rfl rfl h69 (fun w hs => zCs rfl rfl (c := ((x.eps.length - 1 : Nat) : Int)) (by omega) (inI (by omega) (by omega))) hK ?_
            refine zAh 17 rfl rfl rfl rfl h69 (fun w hs => zAu zCq zDx rfl rfl rfl (by omega) rfl) hK ?_
            refine zAh 18 rfl rfl rfl rfl h69 (fun w hs => zA3 zDb rfl sz2 rfl rfl rfl) hK ?_
            refine zAh 19 rfl rfl rfl rfl h69 (fun w hs => zA7 uz2 rfl rfl (hm.eps.cons.cell hs (zDm hy1) (j := 1) rfl)) hK ?_
            refine zAh 20 rfl rfl rfl rfl h69 (fun w hs => zA3 (o' := 2) zBx rfl sz2 rfl rfl rfl) hK ?_
            refine zAh 21 rfl rfl rfl rfl h69 (fun w hs => zA7 uz2 rfl rfl (hs.cellAt 0 rfl rfl)) hK ?_
            refine zAh 22 rfl rfl rfl rfl h69 (fun w hs => zD1 rfl rfl) hK ?_
            refine zA6 23 rfl rfl (fun w hs => zAj (v := .bool _) rfl h69 rfl) hK ?_
            refine zAs (by kernel_rfl) ?_
            clear hK
            refine zB7 rfl ?_ ?_
            ·
             intro h81
             have g81 := of_decide_eq_true h81
             refine zA5 (zA1 ?_)
             refine zA rfl (zA7 zCv rfl rfl (hE.cellW hs 103 (by decide) rfl)) ?_
             refine zA rfl (zA2 (v := zAo ad _) rfl) ?_
             refine zA4 ?_
             refine zAf ?_
             refine zBg (v := zAo ad _) rfl rfl ?_
             have hr : zBd x = false := by simp [zBd, *]
             have hep : ¬ epF x.eps ≠ 0 := by simpa using h54
             have hsb : zD2 x = true := by simp only [zD2, pr_get hy0, pr_get hy1]; simp; omega
             rw [mfF, if_neg (by rw [hr]; decide), if_neg hep, if_pos hsb]
             exact ⟨_, rfl, RetF.bare hs.tail⟩
            ·
             intro h81
             have g81 := of_decide_eq_false h81
             refine zAd ?_
             refine zA5 (zA1 ?_)
             refine zA rfl (zA3 (o' := 5) zBx rfl zDe rfl rfl rfl) ?_
             refine zA rfl (zA7 zC rfl rfl (hs.cellAt 0 rfl rfl)) ?_
             refine zAa rfl en85 (objects_sl hE hs hm.obs.cons rfl hob) ?_
             clear hs
             rintro _ w ⟨eb, rfl, hs⟩
             refine zA rfl (zA2 (v := flV ad _ _) rfl) ?_
             refine zA4 ?_
             refine zAf ?_
             refine zBg (v := flV ad _ _) rfl rfl ?_
             have hr : zBd x = false := by simp [zBd, *]
             have hep : ¬ epF x.eps ≠ 0 := by simpa using h54
             have hsb : zD2 x = false := by rw [zD2, pr_get hy0, pr_get hy1, decide_eq_false (show ¬ x.eps.length = 0 by omega), decide_eq_false (show ¬ y0.2 ≠ x.base by omega), decide_eq_false (show ¬ x.fin ≤ y1.2 by omega)]; rfl
             rw [mfF, if_neg (by rw [hr]; decide), if_neg hep, if_neg (by rw [hsb]; decide)]
             exact ⟨_, rfl, eb, rfl, hs.arr [0] 2 (by decide)⟩
theorem sameM_sl (hs : Mem g w L) {x y : Mf} {e o e2 o2 : SA} (hx : MfR g L x e o) (hy : MfR g L y e2 o2) (h1 : x.eps.length ≤ 1000000) (h2 : x.obs.length ≤ 1000000) : Calls Tryz.prog 42 #[.agg (mfL x e o).toArray, .agg (mfL y e2 o2).toArray] w (Ret fun v w' => v = .bool (decide (x = y)) ∧ Mem g w' L) := by
  refine zAm Tryz.func42 rfl rfl ?_
  skip
  refine zA5 (zA1 ?_)
  refine zCd (v := .agg _) hs rfl rfl ?_
  clear hs
  intro b2 w hs
  try simp only [List.set_cons_succ, List.set_cons_zero] at hs
  refine zCd (v := .agg _) hs rfl rfl ?_
  clear hs
  intro b3 w hs
  try simp only [List.set_cons_succ, List.set_cons_zero] at hs
  refine zA rfl (zA2 (v := .bool _) rfl) ?_
  refine zA4 (zA5 (zA1 ?_))
  refine zA rfl (zA3 (o' := 0) zBx rfl sz3 rfl rfl rfl) ?_
  refine zA rfl (zA7 uz3 rfl rfl (hs.cellAt 1 rfl rfl)) ?_
  refine zA rfl (zA3 (o' := 0) zBx rfl sz3 rfl rfl rfl) ?_
  refine zA rfl (zA7 uz3 rfl rfl (hs.cellAt 0 rfl rfl)) ?_
  refine zA rfl (zBq rfl rfl) ?_
  refine zA rfl (zA0 (v := .bool _) rfl) ?_
  refine zB4 (t := _) (d := 10) rfl ?_ ?_
  ·
   intro h9
   have g9 := of_decide_eq_true h9
   refine zAk rfl rfl h9 ?_
   refine zA rfl (zA3 (o' := 1) zBx rfl sz2 rfl rfl rfl) ?_
   refine zAk rfl rfl h9 ?_
   refine zA rfl (zA7 uz2 rfl rfl (hs.cellAt 1 rfl rfl)) ?_
   refine zAk rfl rfl h9 ?_
   refine zA rfl (zA3 (o' := 1) zBx rfl sz2 rfl rfl rfl) ?_
   refine zAk rfl rfl h9 ?_
   refine zA rfl (zA7 uz2 rfl rfl (hs.cellAt 0 rfl rfl)) ?_
   refine zAk rfl rfl h9 ?_
   refine zA rfl (zBq rfl rfl) ?_
   refine zA rfl (zAi (v := .bool _) rfl h9 rfl) ?_
   refine zA rfl (zA0 (v := .bool _) rfl) ?_
   refine zB4 (t := _) (d := 17) rfl ?_ ?_
   ·
    intro h15
    have g15 := of_decide_eq_true h15
    refine zAk rfl rfl h15 ?_
    refine zA rfl (zA3 (o' := 2) zBx rfl sz2 rfl rfl rfl) ?_
    refine zAk rfl rfl h15 ?_
    refine zA rfl (zA7 uz2 rfl rfl (hs.cellAt 1 rfl rfl)) ?_
    refine zAk rfl rfl h15 ?_
    refine zA rfl (zA3 (o' := 2) zBx rfl sz2 rfl rfl rfl) ?_
    refine zAk rfl rfl h15 ?_
    refine zA rfl (zA7 uz2 rfl rfl (hs.cellAt 0 rfl rfl)) ?_
    refine zAk rfl rfl h15 ?_
    refine zA rfl (zBq rfl rfl) ?_
    refine zA rfl (zAi (v := .bool _) rfl h15 rfl) ?_
    refine zA rfl (zA0 (v := .bool _) rfl) ?_
    refine zB4 (t := _) (d := 24) rfl ?_ ?_
    ·
     intro h22
     have g22 := of_decide_eq_true h22
     refine zAk rfl rfl h22 ?_
     refine zA rfl (zA3 (o' := 3) zBx rfl sz2 rfl rfl rfl) ?_
     refine zAk rfl rfl h22 ?_
     refine zA rfl (zA7 uz2 rfl rfl (hs.cellAt 1 rfl rfl)) ?_
     refine zAk rfl rfl h22 ?_
     refine zA rfl (zA3 (o' := 3) zBx rfl sz2 rfl rfl rfl) ?_
     refine zAk rfl rfl h22 ?_
     refine zA rfl (zA7 uz2 rfl rfl (hs.cellAt 0 rfl rfl)) ?_
     refine zAk rfl rfl h22 ?_
     refine zA rfl (zBq rfl rfl) ?_
     refine zA rfl (zAi (v := .bool _) rfl h22 rfl) ?_
     refine zA rfl (zA0 (v := .bool _) rfl) ?_
     refine zB4 (t := _) (d := 31) rfl ?_ ?_
     ·
      intro h29
      have g29 := of_decide_eq_true h29
      refine zAk rfl rfl h29 ?_
      refine zA rfl (zA3 (o' := 4) zBx rfl sz36 rfl rfl rfl) ?_
      refine zAk rfl rfl h29 ?_
      refine zA rfl (zA7 zCq rfl rfl (hs.cellAt 1 rfl rfl)) ?_
      refine zAk rfl rfl h29 ?_
      refine zA rfl (zA3 (o' := 4) zBx rfl sz36 rfl rfl rfl) ?_
      refine zAk rfl rfl h29 ?_
      refine zA rfl (zA7 zCq rfl rfl (hs.cellAt 0 rfl rfl)) ?_
      refine zAk rfl rfl h29 ?_
      refine zAa rfl en86 (eqPr_sl hs hx.eps.cons.cons hy.eps.cons.cons rfl rfl h1) ?_
      clear hs
      rintro _ w ⟨rfl, hs⟩
      refine zA rfl (zAi (v := .bool _) rfl h29 rfl) ?_
      refine zA rfl (zA0 (v := .bool _) rfl) ?_
      refine zB4 (t := _) (d := 38) rfl ?_ ?_
      ·
       intro h36
       refine zAk rfl rfl h36 ?_
       refine zA rfl (zA3 (o' := 5) zBx rfl zDe rfl rfl rfl) ?_
       refine zAk rfl rfl h36 ?_
       refine zA rfl (zA7 zC rfl rfl (hs.cellAt 1 rfl rfl)) ?_
       refine zAk rfl rfl h36 ?_
       refine zA rfl (zA3 (o' := 5) zBx rfl zDe rfl rfl rfl) ?_
       refine zAk rfl rfl h36 ?_
       refine zA rfl (zA7 zC rfl rfl (hs.cellAt 0 rfl rfl)) ?_
       refine zAk rfl rfl h36 ?_
       refine zAa rfl en87 (eqOb_sl hs hx.obs.cons.cons hy.obs.cons.cons rfl rfl h2) ?_
       clear hs
       rintro _ w ⟨rfl, hs⟩
       refine zA rfl (zAi (v := .bool _) rfl h36 rfl) ?_
       refine zA rfl (zA2 (v := .bool _) rfl) ?_
       refine zA4 ?_
       refine zAf ?_
       refine zBg (v := .bool _) rfl rfl ?_
       exact ⟨_, rfl, zCp (by have e1 := of_decide_eq_true h36; exact decide_eq_decide.2 ⟨fun q => by obtain ⟨x1, x2, x3, x4, x5, x6⟩ := x; obtain ⟨y1, y2, y3, y4, y5, y6⟩ := y; simp only at *; subst g9 g15 g22 g29 e1 q; rfl, fun q => by rw [q]⟩), hs.tail.tail⟩
      ·
       intro h36
       refine zA9 rfl rfl rfl h36 ?_
       refine zA9 rfl rfl rfl h36 ?_
       refine zA9 rfl rfl rfl h36 ?_
       refine zA9 rfl rfl rfl h36 ?_
       refine zA9 rfl rfl rfl h36 ?_
       refine zA rfl (zAj (v := .bool _) rfl h36 rfl) ?_
       refine zA rfl (zA2 (v := .bool _) rfl) ?_
       refine zA4 ?_
       refine zAf ?_
       refine zBg (v := .bool _) rfl rfl ?_
       exact ⟨_, rfl, zCp (decide_eq_false (fun q => of_decide_eq_false h36 (by rw [q]))).symm, hs.tail.tail⟩
     ·
      intro h29
      have g29 := of_decide_eq_false h29
      refine zA9 rfl rfl rfl h29 ?_
      refine zA9 rfl rfl rfl h29 ?_
      refine zA9 rfl rfl rfl h29 ?_
      refine zA9 rfl rfl rfl h29 ?_
      refine zA9 rfl rfl rfl h29 ?_
      refine zA rfl (zAj (v := .bool _) rfl h29 rfl) ?_
      refine zA rfl (zA0 (v := .bool _) rfl) ?_
      refine zA9 rfl rfl rfl rfl ?_
      refine zA9 rfl rfl rfl rfl ?_
      refine zA9 rfl rfl rfl rfl ?_
      refine zA9 rfl rfl rfl rfl ?_
      refine zA9 rfl rfl rfl rfl ?_
      refine zA rfl (zAj (v := .bool _) rfl rfl rfl) ?_
      refine zA rfl (zA2 (v := .bool _) rfl) ?_
      refine zA4 ?_
      refine zAf ?_
      refine zBg (v := .bool _) rfl rfl ?_
      exact ⟨_, rfl, zCp (decide_eq_false (fun q => g29 (by rw [q]))).symm, hs.tail.tail⟩
    ·
     intro h22
     have g22 := of_decide_eq_false h22
     refine zA9 rfl rfl rfl h22 ?_
     refine zA9 rfl rfl rfl h22 ?_
     refine zA9 rfl rfl rfl h22 ?_
     refine zA9 rfl rfl rfl h22 ?_
     refine zA9 rfl rfl rfl h22 ?_
     refine zA rfl (zAj (v := .bool _) rfl h22 rfl) ?_
     refine zA rfl (zA0 (v := .bool _) rfl) ?_
     refine zA9 rfl rfl rfl rfl ?_
     refine zA9 rfl rfl rfl rfl ?_
     refine zA9 rfl rfl rfl rfl ?_
     refine zA9 rfl rfl rfl rfl ?_
     refine zA9 rfl rfl rfl rfl ?_
     refine zA rfl (zAj (v := .bool _) rfl rfl rfl) ?_
     refine zA rfl (zA0 (v := .bool _) rfl) ?_
     refine zA9 rfl rfl rfl rfl ?_
     refine zA9 rfl rfl rfl rfl ?_
     refine zA9 rfl rfl rfl rfl ?_
     refine zA9 rfl rfl rfl rfl ?_
     refine zA9 rfl rfl rfl rfl ?_
     refine zA rfl (zAj (v := .bool _) rfl rfl rfl) ?_
     refine zA rfl (zA2 (v := .bool _) rfl) ?_
     refine zA4 ?_
     refine zAf ?_
     refine zBg (v := .bool _) rfl rfl ?_
     exact ⟨_, rfl, zCp (decide_eq_false (fun q => g22 (by rw [q]))).symm, hs.tail.tail⟩
   ·
    intro h15
    have g15 := of_decide_eq_false h15
    refine zA9 rfl rfl rfl h15 ?_
    refine zA9 rfl rfl rfl h15 ?_
    refine zA9 rfl rfl rfl h15 ?_
    refine zA9 rfl rfl rfl h15 ?_
    refine zA9 rfl rfl rfl h15 ?_
    refine zA rfl (zAj (v := .bool _) rfl h15 rfl) ?_
    refine zA rfl (zA0 (v := .bool _) rfl) ?_
    refine zA9 rfl rfl rfl rfl ?_
    refine zA9 rfl rfl rfl rfl ?_
    refine zA9 rfl rfl rfl rfl ?_
    refine zA9 rfl rfl rfl rfl ?_
    refine zA9 rfl rfl rfl rfl ?_
    refine zA rfl (zAj (v := .bool _) rfl rfl rfl) ?_
    refine zA rfl (zA0 (v := .bool _) rfl) ?_
    refine zA9 rfl rfl rfl rfl ?_
    refine zA9 rfl rfl rfl rfl ?_
    refine zA9 rfl rfl rfl rfl ?_
    refine zA9 rfl rfl rfl rfl ?_
    refine zA9 rfl rfl rfl rfl ?_
    refine zA rfl (zAj (v := .bool _) rfl rfl rfl) ?_
    refine zA rfl (zA0 (v := .bool _) rfl) ?_
    refine zA9 rfl rfl rfl rfl ?_
    refine zA9 rfl rfl rfl rfl ?_
    refine zA9 rfl rfl rfl rfl ?_
    refine zA9 rfl rfl rfl rfl ?_
    refine zA9 rfl rfl rfl rfl ?_
    refine zA rfl (zAj (v := .bool _) rfl rfl rfl) ?_
    refine zA rfl (zA2 (v := .bool _) rfl) ?_
    refine zA4 ?_
    refine zAf ?_
    refine zBg (v := .bool _) rfl rfl ?_
    exact ⟨_, rfl, zCp (decide_eq_false (fun q => g15 (by rw [q]))).symm, hs.tail.tail⟩
  ·
   intro h9
   have g9 := of_decide_eq_false h9
   refine zA9 rfl rfl rfl h9 ?_
   refine zA9 rfl rfl rfl h9 ?_
   refine zA9 rfl rfl rfl h9 ?_
   refine zA9 rfl rfl rfl h9 ?_
   refine zA9 rfl rfl rfl h9 ?_
   refine zA rfl (zAj (v := .bool _) rfl h9 rfl) ?_
   refine zA rfl (zA0 (v := .bool _) rfl) ?_
   refine zA9 rfl rfl rfl rfl ?_
   refine zA9 rfl rfl rfl rfl ?_
   refine zA9 rfl rfl rfl rfl ?_
   refine zA9 rfl rfl rfl rfl ?_
   refine zA9 rfl rfl rfl rfl ?_
   refine zA rfl (zAj (v := .bool _) rfl rfl rfl) ?_
   refine zA rfl (zA0 (v := .bool _) rfl) ?_
   refine zA9 rfl rfl rfl rfl ?_
   refine zA9 rfl rfl rfl rfl ?_
   refine zA9 rfl rfl rfl rfl ?_
   refine zA9 rfl rfl rfl rfl ?_
   refine zA9 rfl rfl rfl rfl ?_
   refine zA rfl (zAj (v := .bool _) rfl rfl rfl) ?_
   refine zA rfl (zA0 (v := .bool _) rfl) ?_
   refine zA9 rfl rfl rfl rfl ?_
   refine zA9 rfl rfl rfl rfl ?_
   refine zA9 rfl rfl rfl rfl ?_
   refine zA9 rfl rfl rfl rfl ?_
   refine zA9 rfl rfl rfl rfl ?_
   refine zA rfl (zAj (v := .bool _) rfl rfl rfl) ?_
   refine zA rfl (zA0 (v := .bool _) rfl) ?_
   refine zA9 rfl rfl rfl rfl ?_
   refine zA9 rfl rfl rfl rfl ?_
   refine zA9 rfl rfl rfl rfl ?_
   refine zA9 rfl rfl rfl rfl ?_
   refine zA9 rfl rfl rfl rfl ?_
   refine zA rfl (zAj (v := .bool _) rfl rfl rfl) ?_
   refine zA rfl (zA2 (v := .bool _) rfl) ?_
   refine zA4 ?_
   refine zAf ?_
   refine zBg (v := .bool _) rfl rfl ?_
   exact ⟨_, rfl, zCp (decide_eq_false (fun q => g9 (by rw [q]))).symm, hs.tail.tail⟩
theorem cloneM_sl (hs : Mem g w L) {x : Mf} {e o : SA} (hx : MfR g L x e o) (h1 : x.eps.length ≤ 1000000) (h2 : x.obs.length ≤ 1000000) : Calls Tryz.prog 43 #[.agg (mfL x e o).toArray] w (Ret fun v w' => ∃ s1 s2 : SA, v = .agg (mfL x s1 s2).toArray ∧ Mem g w' (mfP x s1 s2 ++ L)) := by
  refine zAm Tryz.func43 rfl rfl ?_
  skip
  refine zA5 (zA1 ?_)
  refine zCd (v := .agg _) hs rfl rfl ?_
  clear hs
  intro b1 w hs
  try simp only [List.set_cons_succ, List.set_cons_zero] at hs
  refine zBh hs rfl ze39 ?_
  clear hs
  intro b2 w hs
  try simp only [List.set_cons_succ, List.set_cons_zero] at hs
  refine zA4 ?_
  refine zA5 ?_
  have hM := hs.drop 1
  generalize hM0 : List.eraseIdx _ 1 = M0 at hM
  refine zAw zBt hM ?_
  intro w tr hK
  replace hs := tr _ hs
  clear tr
  refine zA6 0 rfl rfl (fun w hs => zA3 (o' := 4) zBx rfl sz36 rfl rfl rfl) hK ?_
  refine zA6 3 rfl rfl (fun w hs => zA3 (o' := 5) zBx rfl zDe rfl rfl rfl) hK ?_
  refine zAb [1, 4] ?_
  refine ⟨⟨_, rfl, ?_⟩, ⟨_, rfl, ?_⟩, trivial⟩
  ·
   refine zA rfl (zA7 zCq rfl rfl (hs.cellAt 1 rfl rfl)) ?_
   clear hK
   have hK := (show Mem g w M0 from by rw [← hM0]; first | exact hs.drop 1 | exact hs.tail.drop 1 | exact hs.tail.tail.drop 1)
   refine zA4 ⟨hK, ?_⟩
   refine zAb [2, 4] ?_
   refine ⟨⟨_, rfl, ?_⟩, ⟨_, rfl, ?_⟩, trivial⟩
   ·
    refine zAa rfl en88 (clonePr_sl hs hx.eps.cons.cons rfl h1) ?_
    clear hs
    rintro _ w ⟨s1, rfl, hs⟩
    clear hK
    have hK := (show Mem g w M0 from by rw [← hM0]; first | exact hs.drop 1 | exact hs.tail.drop 1 | exact hs.tail.tail.drop 1)
    refine zA4 ⟨hK, ?_⟩
    refine zAb [4] ?_
    refine ⟨⟨_, rfl, ?_⟩, trivial⟩
    refine zA rfl (zA7 zC rfl rfl (hs.cellAt 2 rfl rfl)) ?_
    clear hK
    have hK := (show Mem g w M0 from by rw [← hM0]; first | exact hs.drop 1 | exact hs.tail.drop 1 | exact hs.tail.tail.drop 1)
    refine zA4 ⟨hK, ?_⟩
    refine zA6 6 rfl rfl (fun w hs => zA3 (o' := 4) zBx rfl sz36 rfl rfl rfl) hK ?_
    refine zAb [5] ?_
    refine ⟨⟨_, rfl, ?_⟩, trivial⟩
    refine zAa rfl en89 (cloneOb_sl hs hx.obs.cons.cons.cons rfl h2) ?_
    clear hs
    rintro _ w ⟨s2, rfl, hs⟩
    clear hK
    have hK := (show Mem g w M0 from by rw [← hM0]; first | exact hs.drop 1 | exact hs.tail.drop 1 | exact hs.tail.tail.drop 1)
    refine zA4 ⟨hK, ?_⟩
    refine zAb [7] ?_
    refine ⟨⟨_, rfl, ?_⟩, trivial⟩
    refine zAv (v := .slice _ _ _) hs 3 rfl sz36 rfl rfl rfl rfl ?_
    clear hs
    intro w hs
    try simp only [List.set_cons_succ, List.set_cons_zero] at hs
    clear hK
    have hK := (show Mem g w M0 from by rw [← hM0]; first | exact hs.drop 1 | exact hs.tail.drop 1 | exact hs.tail.tail.drop 1)
    refine zA4 ⟨hK, ?_⟩
    refine zA6 8 rfl rfl (fun w hs => zA3 (o' := 5) zBx rfl zDe rfl rfl rfl) hK ?_
    refine zAb [9] ?_
    refine ⟨⟨_, rfl, ?_⟩, trivial⟩
    refine zAv (v := .slice _ _ _) hs 3 rfl zDe rfl rfl rfl rfl ?_
    clear hs
    intro w hs
    try simp only [List.set_cons_succ, List.set_cons_zero] at hs
    clear hK
    have hK := (show Mem g w M0 from by rw [← hM0]; first | exact hs.drop 1 | exact hs.tail.drop 1 | exact hs.tail.tail.drop 1)
    refine zA4 ⟨hK, ?_⟩
    refine zAs (by kernel_rfl) ?_
    clear hK
    refine zA5 (zA1 ?_)
    refine zA rfl (zBc hs 3 rfl zBx zDj rfl) ?_
    refine zAq hs 2 rfl rfl rfl zDj rfl rfl ?_
    clear hs
    intro w hs
    try simp only [List.set_cons_succ, List.set_cons_zero] at hs
    refine zA4 ?_
    refine zAf ?_
    refine resG [(.cell 2 39, .agg _)] rfl ⟨⟨_, rfl, zC0 hs 2 rfl zBx zDj⟩, trivial⟩ ?_
    exact ⟨_, rfl, s1, s2, rfl, hs.arr [1, 0] 4 (by decide)⟩
   ·
    refine zA rfl (zA7 zC rfl rfl (hs.cellAt 1 rfl rfl)) ?_
    clear hK
    have hK := (show Mem g w M0 from by rw [← hM0]; first | exact hs.drop 1 | exact hs.tail.drop 1 | exact hs.tail.tail.drop 1)
    refine zA4 ⟨hK, ?_⟩
    refine zAb [2] ?_
    refine ⟨⟨_, rfl, ?_⟩, trivial⟩
    refine zAa rfl en88 (clonePr_sl hs hx.eps.cons.cons rfl h1) ?_
    clear hs
    rintro _ w ⟨s1, rfl, hs⟩
    clear hK
    have hK := (show Mem g w M0 from by rw [← hM0]; first | exact hs.drop 1 | exact hs.tail.drop 1 | exact hs.tail.tail.drop 1)
    refine zA4 ⟨hK, ?_⟩
    refine zA6 6 rfl rfl (fun w hs => zA3 (o' := 4) zBx rfl sz36 rfl rfl rfl) hK ?_
    refine zAb [5] ?_
    refine ⟨⟨_, rfl, ?_⟩, trivial⟩
    refine zAa rfl en89 (cloneOb_sl hs hx.obs.cons.cons.cons rfl h2) ?_
    clear hs
    rintro _ w ⟨s2, rfl, hs⟩
    clear hK
    have hK := (show Mem g w M0 from by rw [← hM0]; first | exact hs.drop 1 | exact hs.tail.drop 1 | exact hs.tail.tail.drop 1)
    refine zA4 ⟨hK, ?_⟩
    refine zAb [7] ?_
    refine ⟨⟨_, rfl, ?_⟩, trivial⟩
    refine zAv (v := .slice _ _ _) hs 3 rfl sz36 rfl rfl rfl rfl ?_
    clear hs
    intro w hs
    try simp only [List.set_cons_succ, List.set_cons_zero] at hs
    clear hK
    have hK := (show Mem g w M0 from by rw [← hM0]; first | exact hs.drop 1 | exact hs.tail.drop 1 | exact hs.tail.tail.drop 1)
    refine zA4 ⟨hK, ?_⟩
    refine zA6 8 rfl rfl (fun w hs => zA3 (o' := 5) zBx rfl zDe rfl rfl rfl) hK ?_
    refine zAb [9] ?_
    refine ⟨⟨_, rfl, ?_⟩, trivial⟩
    refine zAv (v := .slice _ _ _) hs 3 rfl zDe rfl rfl rfl rfl ?_
    clear hs
    intro w hs
    try simp only [List.set_cons_succ, List.set_cons_zero] at hs
    clear hK
    have hK := (show Mem g w M0 from by rw [← hM0]; first | exact hs.drop 1 | exact hs.tail.drop 1 | exact hs.tail.tail.drop 1)
    refine zA4 ⟨hK, ?_⟩
    refine zAs (by kernel_rfl) ?_
    clear hK
    refine zA5 (zA1 ?_)
    refine zA rfl (zBc hs 3 rfl zBx zDj rfl) ?_
    refine zAq hs 2 rfl rfl rfl zDj rfl rfl ?_
    clear hs
    intro w hs
    try simp only [List.set_cons_succ, List.set_cons_zero] at hs
    refine zA4 ?_
    refine zAf ?_
    refine resG [(.cell 2 39, .agg _)] rfl ⟨⟨_, rfl, zC0 hs 2 rfl zBx zDj⟩, trivial⟩ ?_
    exact ⟨_, rfl, s1, s2, rfl, hs.arr [1, 0] 4 (by decide)⟩
  ·
   refine zA rfl (zA7 zC rfl rfl (hs.cellAt 1 rfl rfl)) ?_
   clear hK
   have hK := (show Mem g w M0 from by rw [← hM0]; first | exact hs.drop 1 | exact hs.tail.drop 1 | exact hs.tail.tail.drop 1)
   refine zA4 ⟨hK, ?_⟩
   refine zAb [1] ?_
   refine ⟨⟨_, rfl, ?_⟩, trivial⟩
   refine zA rfl (zA7 zCq rfl rfl (hs.cellAt 1 rfl rfl)) ?_
   clear hK
   have hK := (show Mem g w M0 from by rw [← hM0]; first | exact hs.drop 1 | exact hs.tail.drop 1 | exact hs.tail.tail.drop 1)
   refine zA4 ⟨hK, ?_⟩
   refine zAb [2] ?_
   refine ⟨⟨_, rfl, ?_⟩, trivial⟩
   refine zAa rfl en88 (clonePr_sl hs hx.eps.cons.cons rfl h1) ?_
   clear hs
   rintro _ w ⟨s1, rfl, hs⟩
   clear hK
   have hK := (show Mem g w M0 from by rw [← hM0]; first | exact hs.drop 1 | exact hs.tail.drop 1 | exact hs.tail.tail.drop 1)
   refine zA4 ⟨hK, ?_⟩
   refine zA6 6 rfl rfl (fun w hs => zA3 (o' := 4) zBx rfl sz36 rfl rfl rfl) hK ?_
   refine zAb [5] ?_
   refine ⟨⟨_, rfl, ?_⟩, trivial⟩
   refine zAa rfl en89 (cloneOb_sl hs hx.obs.cons.cons.cons rfl h2) ?_
   clear hs
   rintro _ w ⟨s2, rfl, hs⟩
   clear hK
   have hK := (show Mem g w M0 from by rw [← hM0]; first | exact hs.drop 1 | exact hs.tail.drop 1 | exact hs.tail.tail.drop 1)
   refine zA4 ⟨hK, ?_⟩
   refine zAb [7] ?_
   refine ⟨⟨_, rfl, ?_⟩, trivial⟩
   refine zAv (v := .slice _ _ _) hs 3 rfl sz36 rfl rfl rfl rfl ?_
   clear hs
   intro w hs
   try simp only [List.set_cons_succ, List.set_cons_zero] at hs
   clear hK
   have hK := (show Mem g w M0 from by rw [← hM0]; first | exact hs.drop 1 | exact hs.tail.drop 1 | exact hs.tail.tail.drop 1)
   refine zA4 ⟨hK, ?_⟩
   refine zA6 8 rfl rfl (fun w hs => zA3 (o' := 5) zBx rfl zDe rfl rfl rfl) hK ?_
   refine zAb [9] ?_
   refine ⟨⟨_, rfl, ?_⟩, trivial⟩
   refine zAv (v := .slice _ _ _) hs 3 rfl zDe rfl rfl rfl rfl ?_
   clear hs
   intro w hs
   try simp only [List.set_cons_succ, List.set_cons_zero] at hs
   clear hK
   have hK := (show Mem g w M0 from by rw [← hM0]; first | exact hs.drop 1 | exact hs.tail.drop 1 | exact hs.tail.tail.drop 1)
   refine zA4 ⟨hK, ?_⟩
   refine zAs (by kernel_rfl) ?_
   clear hK
   refine zA5 (zA1 ?_)
   refine zA rfl (zBc hs 3 rfl zBx zDj rfl) ?_
   refine zAq hs 2 rfl rfl rfl zDj rfl rfl ?_
   clear hs
   intro w hs
   try simp only [List.set_cons_succ, List.set_cons_zero] at hs
   refine zA4 ?_
   refine zAf ?_
   refine resG [(.cell 2 39, .agg _)] rfl ⟨⟨_, rfl, zC0 hs 2 rfl zBx zDj⟩, trivial⟩ ?_
   exact ⟨_, rfl, s1, s2, rfl, hs.arr [1, 0] 4 (by decide)⟩
theorem nextE_sl (hs : Mem g w L) (s k : Int) : Calls Tryz.prog 41 #[.int .i64 s, .int .i64 k] w (Ret fun v w' => v = .bool (nextB s k) ∧ Mem g w' L) := by
  refine zAm Tryz.func41 rfl rfl ?_
  skip
  refine zA5 (zA1 ?_)
  refine zA rfl (zA2 (v := .bool _) rfl) ?_
  refine zA4 ?_
  refine zA5 ?_
  refine zA5 (zA1 ?_)
  refine zA rfl (zA0 (v := .int .i64 _) rfl) ?_
  refine zA4 ?_
  refine zAt ?_
  refine zA5 (zA1 ?_)
  refine zA rfl (zBq rfl rfl) ?_
  refine zA rfl (zA2 (v := .bool _) rfl) ?_
  refine zA4 ?_
  refine zB7 rfl ?_ ?_
  ·
   intro h7
   have g7 := of_decide_eq_true h7
   refine zA5 (zA1 ?_)
   refine zA rfl (zA0 (v := .int .i64 _) rfl) ?_
   refine zA rfl (zBq rfl rfl) ?_
   refine zA rfl (zA2 (v := .bool _) rfl) ?_
   refine zA4 ?_
   refine zAf ?_
   refine zBg (v := .bool _) rfl rfl ?_
   exact ⟨_, rfl, zCp (by rw [Bool.eq_iff_iff]; simp [nextB, *]), hs⟩
  ·
   intro h7
   have g7 := of_decide_eq_false h7
   refine zA5 (zA1 ?_)
   refine zA rfl (zBq rfl rfl) ?_
   refine zA rfl (zA2 (v := .bool _) rfl) ?_
   refine zA4 ?_
   refine zB7 rfl ?_ ?_
   ·
    intro h11
    have g11 := of_decide_eq_true h11
    refine zA5 (zA1 ?_)
    refine zA rfl (zA0 (v := .int .i64 _) rfl) ?_
    refine zA rfl (zBq rfl rfl) ?_
    refine zA rfl (zA2 (v := .bool _) rfl) ?_
    refine zA4 ?_
    refine zAf ?_
    refine zBg (v := .bool _) rfl rfl ?_
    exact ⟨_, rfl, zCp (by rw [Bool.eq_iff_iff]; simp [nextB, *]), hs⟩
   ·
    intro h11
    have g11 := of_decide_eq_false h11
    refine zA5 (zA1 ?_)
    refine zA rfl (zBq rfl rfl) ?_
    refine zA rfl (zA2 (v := .bool _) rfl) ?_
    refine zA4 ?_
    refine zB7 rfl ?_ ?_
    ·
     intro h15
     have g15 := of_decide_eq_true h15
     refine zA5 (zA1 ?_)
     refine zA rfl (zA0 (v := .int .i64 _) rfl) ?_
     refine zA rfl (zBq rfl rfl) ?_
     refine zA rfl (zA0 (v := .bool _) rfl) ?_
     refine zB4 (t := _) (d := 18) rfl ?_ ?_
     ·
      intro h17
      have g17 := of_decide_eq_true h17
      refine zA9 rfl rfl rfl h17 ?_
      refine zA9 rfl rfl rfl h17 ?_
      refine zA rfl (zAi (v := .bool _) rfl h17 rfl) ?_
      refine zA rfl (zA2 (v := .bool _) rfl) ?_
      refine zA4 ?_
      refine zAf ?_
      refine zBg (v := .bool _) rfl rfl ?_
      exact ⟨_, rfl, zCp (by rw [Bool.eq_iff_iff]; simp [nextB, *]), hs⟩
     ·
      intro h17
      have g17 := of_decide_eq_false h17
      refine zAk rfl rfl h17 ?_
      refine zA rfl (zA0 (v := .int .i64 _) rfl) ?_
      refine zAk rfl rfl h17 ?_
      refine zA rfl (zBq rfl rfl) ?_
      refine zA rfl (zAj (v := .bool _) rfl h17 rfl) ?_
      refine zA rfl (zA2 (v := .bool _) rfl) ?_
      refine zA4 ?_
      refine zAf ?_
      refine zBg (v := .bool _) rfl rfl ?_
      exact ⟨_, rfl, zCp (by rw [Bool.eq_iff_iff]; simp [nextB, *]), hs⟩
    ·
     intro h15
     have g15 := of_decide_eq_false h15
     refine zA5 (zA1 ?_)
     refine zA rfl (zBq rfl rfl) ?_
     refine zA rfl (zA2 (v := .bool _) rfl) ?_
     refine zA4 ?_
     refine zB7 rfl ?_ ?_
     ·
      intro h23
      have g23 := of_decide_eq_true h23
      refine zA5 (zA1 ?_)
      refine zA rfl (zA0 (v := .int .i64 _) rfl) ?_
      refine zA rfl (zBq rfl rfl) ?_
      refine zA rfl (zA2 (v := .bool _) rfl) ?_
      refine zA4 ?_
      refine zAf ?_
      refine zBg (v := .bool _) rfl rfl ?_
      exact ⟨_, rfl, zCp (by rw [Bool.eq_iff_iff]; simp [nextB, *]), hs⟩
     ·
      intro h23
      have g23 := of_decide_eq_false h23
      refine zAd ?_
      refine zA5 (zA1 ?_)
      refine zA rfl (zA2 (v := .bool _) rfl) ?_
      refine zA4 ?_
      refine zAf ?_
      refine zBg (v := .bool _) rfl rfl ?_
      exact ⟨_, rfl, zCp (by rw [Bool.eq_iff_iff]; simp [nextB, *]), hs⟩
end Go.Proofs.YtdkgdjnbpjjfmaaGreatDoor
namespace Go.Proofs.YtdkgdjnbpjjfmaaGreatDoor
set_option linter.all false

theorem al_key {κ α : Type} [DecidableEq κ] {l : List (κ × α)} {k : κ} {v : α} (h : zB1 l k = some v) : k ∈ zAg l := List.mem_map_of_mem (zDd h)
theorem zF5 {κ α : Type} [DecidableEq κ] {l : List (κ × α)} {k : κ} (h : k ∈ zAg l) : ∃ v, zB1 l k = some v := by
  cases hc : zB1 l k with
  | some v => exact ⟨v, rfl⟩
  | none => exact absurd h ((zBa _ _).1 hc)
theorem al_in {κ α : Type} [DecidableEq κ] {l : List (κ × α)} {k : κ} {v : α} {x : κ × α} (h : x ∈ zC9 l k v) : x = (k, v) ∨ x ∈ l := by
  induction l with
  | nil => simp [zC9] at h; exact .inl h
  | cons y l ih =>
    obtain ⟨a, b⟩ := y
    simp only [zC9] at h
    split at h
    · rcases List.mem_cons.1 h with h | h
      · exact .inl h
      · exact .inr (List.mem_cons_of_mem _ h)
    · rcases List.mem_cons.1 h with h | h
      · exact .inr (by rw [h]; exact List.mem_cons_self ..)
      · rcases ih h with h | h
        · exact .inl h
        · exact .inr (List.mem_cons_of_mem _ h)
theorem al_end {κ α : Type} [DecidableEq κ] {l : List (κ × α)} {k : κ} {v : α} (h : zB1 l k = none) : zC9 l k v = l ++ [(k, v)] := by
  rw [zBa] at h
  induction l with
  | nil => rfl
  | cons x l ih =>
    obtain ⟨a, b⟩ := x
    simp only [zAg, List.map_cons, List.mem_cons, not_or] at h
    simp only [List.cons_append, zC9]
    rw [if_neg (fun e => h.1 e.symm), ih h.2]
theorem al_len {κ α : Type} [DecidableEq κ] {l : List (κ × α)} {k : κ} {v u : α} (h : zB1 l k = some u) : (zC9 l k v).length = l.length := by
  have := congrArg List.length (show zAg (zC9 l k v) = zAg l by rw [zF9, if_pos (al_key h)])
  simpa [zAg] using this
theorem al_del {κ α : Type} [DecidableEq κ] : ∀ {l : List (κ × α)} {k : κ} {v : α}, zB1 l k = some v → (zDq l k).length + 1 = l.length
  | (a, b) :: l, k, v, h => by
    simp only [zB1] at h
    simp only [zDq]
    split at h
    · rename_i e; rw [if_pos e]; simp
    · rename_i e; rw [if_neg e]; have := al_del h; simpa using this

/-! ### apply -/
variable {V : Vw} {k : Int} {x : Mf}
theorem Vw.ok_nil : Vw.ok [] := ⟨List.nodup_nil, (fun x h => by cases h), by simp⟩
/-- The cases of an entry. -/
theorem Vw.apply_ok (h : V.ok) (k : Int) (x : Mf) : (V.apply k x).2.ok := by
  unfold Vw.apply
  split
  · exact h
  · rename_i h1
    have h1 : (mfF x).1 = 0 := by simpa using h1
    split
    · exact h
    · rename_i h2
      split
      · exact h
      · split
        · rename_i hn
          split
          · exact h
          · rename_i h4
            refine ⟨nodup_put h.nd _ _, fun y hy => ?_, ?_⟩
            · rcases al_in hy with rfl | hy
              · exact ⟨h1, rfl, by show 1 ≤ k; omega, by show k ≤ 4; omega⟩
              · exact h.fine y hy
            · show (zC9 V x.id ⟨k, x⟩).length ≤ 4096
              rw [al_end hn]
              simp only [List.length_append, List.length_cons, List.length_nil]
              omega
        · rename_i i hi
          split
          · refine ⟨nodup_put h.nd _ _, fun y hy => ?_, ?_⟩
            · rcases al_in hy with rfl | hy
              · exact ⟨h1, rfl, by show 1 ≤ k; omega, by show k ≤ 4; omega⟩
              · exact h.fine y hy
            · show (zC9 V x.id ⟨k, x⟩).length ≤ 4096
              rw [al_len hi]
              exact h.few
          · exact h
/-- A fault of a view's. -/
theorem Vw.apply_flt (V : Vw) (k : Int) (x : Mf) : ((V.apply k x).1 = (0, none) ∨ (V.apply k x).1.1 ∈ [103, 104, 105, 106, 112, 113]) ∧ ((V.apply k x).1.2 = none ∨ (V.apply k x).1.1 ∈ [105, 106]) := by
  unfold Vw.apply
  split
  · have := mfF_ok x
    refine ⟨this.1.imp id fun h => ?_, this.2⟩
    show (mfF x).1 ∈ _
    revert h
    simp only [List.mem_cons, List.not_mem_nil, or_false]
    omega
  · split
    · exact ⟨.inr (by simp), .inl rfl⟩
    · split
      · exact ⟨.inr (by simp), .inl rfl⟩
      · split
        · split
          · exact ⟨.inr (by simp), .inl rfl⟩
          · exact ⟨.inl rfl, .inl rfl⟩
        · split
          · exact ⟨.inl rfl, .inl rfl⟩
          · exact ⟨.inr (by simp), .inl rfl⟩
end Go.Proofs.YtdkgdjnbpjjfmaaGreatDoor
namespace Go.Proofs.YtdkgdjnbpjjfmaaGreatDoor
set_option linter.all false
open Go.RowKit
attribute [local irreducible] zAo
variable {g w : World} {L M : List HP} {ad : Nat → Addr} {p : Nat} {V : Vw}

section
variable {P : Program} {ρ : Env} {dst : Option Tmp} {ty : TypeId} {pos : String} {aft : Array Edge} {x : Operand}
theorem run_lenM {κ : Type} {enc : κ → Value} {m : Nat} {es : List (κ × Value)} {t kt et : TypeId} (hm : zE9 w enc m es) (ht : P.underlying t = some (.map kt et)) (hx : ev ρ x = .map (some m)) : (execOp (ev ρ) ⟨dst, .call { callee := .builtin .len, args := #[x], argTypes := #[t] }, ty, pos, aft, none⟩).run P w = .ok (.value (.int .i64 es.length)) w := by
  obtain ⟨arr, clock, hb, he, _⟩ := hm
  have hl : arr.size = es.length := by have := congrArg List.length he; simpa using this
  simp [execOp, resolve, invoke, builtin, Builtin.len_, run_underlying ht, hx, goInt, MapKept.run_getObj_map hb, hl]
end
theorem itm_inj {i : Itm} {e o e' o' : SA} (h : itmV i e o = itmV i e' o') : e = e' ∧ o = o' := by
  simp only [itmV, mfL, Value.agg.injEq, Array.mk.injEq, List.cons.injEq, Value.slice.injEq, true_and, and_true] at h
  obtain ⟨a, b⟩ := e; obtain ⟨c, d⟩ := o; obtain ⟨a', b'⟩ := e'; obtain ⟨c', d'⟩ := o'
  simp only at h
  obtain ⟨⟨rfl, rfl⟩, rfl, rfl⟩ := h
  exact ⟨rfl, rfl⟩
/-- What is known of a segment of a view. -/
theorem Mem.itmAt {es : List (Int × Value)} (hs : Mem g w L) (k : Nat) (hk : L[k]? = some (famC itmC es V)) {id : Int} {i : Itm} (hV : zB1 V id = some i) : ∃ e o, zB1 es id = some (itmV i e o) ∧ MfR g L i.m e o := by
  obtain ⟨v, hv⟩ := fam_some (hs.famKeys k hk) hV
  have h1 := hs.famTake k hk hv hV
  obtain ⟨e, o, rfl, _⟩ := h1.openItm
  refine ⟨e, o, hv, ⟨Ens.fam k hk hv hV fun F w h => ?_, Ens.fam k hk hv hV fun F w h => ?_⟩⟩
  · obtain ⟨⟨e', o'⟩, h2, h3⟩ := h
    obtain ⟨rfl, rfl⟩ := itm_inj h3
    obtain ⟨F1, F2, h4, _⟩ := h2
    exact h4.1.rows
  · obtain ⟨⟨e', o'⟩, h2, h3⟩ := h
    obtain ⟨rfl, rfl⟩ := itm_inj h3
    obtain ⟨F1, F2, _, h5, _⟩ := h2
    obtain ⟨F3, F4, h6, _⟩ := h5
    exact h6.1.rows
theorem mf_len {x : Mf} (h : (mfF x).1 = 0) : x.eps.length ≤ 256 ∧ x.obs.length ≤ 8 := by
  unfold mfF at h
  split at h
  · cases h
  · split at h
    · rename_i h1; exact absurd h h1
    · rename_i h1
      split at h
      · cases h
      · refine ⟨epF_len (by simpa using h1), ?_⟩
        unfold obF at h
        split at h
        · cases h
        · omega
theorem Vw.ok.item (h : V.ok) {id : Int} {i : Itm} (hi : zB1 V id = some i) : (mfF i.m).1 = 0 ∧ i.m.id = id ∧ 1 ≤ i.st ∧ i.st ≤ 4 ∧ i.m.obs.length ≤ 8 ∧ i.m.eps.length ≤ 256 := by
  have h1 := h.fine _ (zDd hi)
  have h2 := mf_len h1.1
  exact ⟨h1.1, h1.2.1, h1.2.2.1, h1.2.2.2, h2.2, h2.1⟩
theorem newv_sl (hs : Mem g w L) : Calls Tryz.prog 11 #[] w (Ret fun v w' => ∃ p, v = .pointer (some ⟨p, 0, none⟩) ∧ Mem g w' (zEx p [] :: L)) := by
  refine zAm Tryz.func11 rfl rfl ?_
  skip
  refine zA5 (zA1 ?_)
  refine zA rfl (zA2 (v := .pointer none) rfl) ?_
  refine zA4 (zA5 (zA1 ?_))
  refine lw_makeMap (Value.int .i64) hs rfl ?_
  clear hs
  intro m1 w hs
  try simp only [List.set_cons_succ, List.set_cons_zero] at hs
  refine zA rfl (zBe ([.map (some m1)]) uz79 ze79 pl79 rfl (by simp [Value.cells]) rfl rfl) ?_
  refine zCd (v := .agg _) hs rfl rfl ?_
  clear hs
  intro b3 w hs
  try simp only [List.set_cons_succ, List.set_cons_zero] at hs
  refine zA rfl (zA2 (v := .pointer (some _)) rfl) ?_
  refine zA4 ?_
  refine zAf ?_
  refine zBg (v := .pointer (some _)) rfl rfl ?_
  exact ⟨_, rfl, b3, rfl, Mem.closeV (es := []) Vw.ok_nil ((hs.addE (famC_nil (R := itmC) (κ := Int) _)).arr [1, 2, 0] 3 (by decide))⟩
/-! ### Refers -/
/-- Segments that have not been looked at. -/
structure RfI (V : Vw) (es left : List (Int × Value)) (n : ByteArray) : Prop where
  nd : (zAg left).Nodup
  sub : ∀ k v, zB1 left k = some v → zB1 es k = some v
  seen : ∀ k i, zB1 V k = some i → zB1 left k = none → refersB i n = false
theorem RfI.step {es left : List (Int × Value)} {n : ByteArray} (h : RfI V es left n) {k : Int} {i : Itm} (hV : zB1 V k = some i) (hr : refersB i n = false) : RfI V es (zDq left k) n := by
  refine ⟨nodup_del h.nd k, fun j v hj => ?_, fun j u hu hj => ?_⟩
  · by_cases e : j = k
    · subst e; rw [zEa h.nd] at hj; cases hj
    · rw [zCa _ e] at hj; exact h.sub j v hj
  · by_cases e : j = k
    · subst e; rw [hV] at hu; cases hu; exact hr
    · rw [zCa _ e] at hj; exact h.seen j u hu hj
end Go.Proofs.YtdkgdjnbpjjfmaaGreatDoor
namespace Go.Proofs.YtdkgdjnbpjjfmaaGreatDoor
set_option linter.all false
open Go.RowKit
variable {g w : World} {L M : List HP} {ad : Nat → Addr} {p : Nat}

theorem fill_km (k a b c d : Int) (e o : SA) (n m : Nat) : Instr.fill ((#[(0, 1), (1, 6)] : Array (Nat × Nat))[·]?) #[.int .i64 0, .int .i64 0, .int .i64 0, .int .i64 0, .int .i64 0, .slice none 0 0, .slice none 0 0] [(0, .int .i64 k), (1, .agg #[.int .i64 a, .int .i64 b, .int .i64 c, .int .i64 d, .slice e.1 n e.2, .slice o.1 m o.2])] = some #[.int .i64 k, .int .i64 a, .int .i64 b, .int .i64 c, .int .i64 d, .slice e.1 n e.2, .slice o.1 m o.2] := by
  kernel_rfl
variable {ρ : Env} {dst : Option Tmp} {ty : TypeId} {pos : String} {aft : Array Edge} {x y : Operand}
theorem zFc {P : Program} {t : TypeId} {fs : Array Field} {k : Int} {m : Mf} {e o : SA} (ht : P.underlying t = some (.struct fs)) (hz : (P.info? t).map (·.zero) = some (some (.agg #[.int .i64 0, .int .i64 0, .int .i64 0, .int .i64 0, .int .i64 0, .slice none 0 0, .slice none 0 0])))
    (hp : ∀ w, (fs.mapM (m := Sem) fun f => do pure (f.offset, ← sizeOf f.type)).run P w = .ok #[(0, 1), (1, 6)] w) (hx : ev ρ x = .int .i64 k) (hy : ev ρ y = .agg (mfL m e o).toArray) :
    (execOp (ev ρ) ⟨dst, .build t #[(0, x), (1, y)], ty, pos, aft, none⟩).run P w = .ok (.value (.agg (.int .i64 k :: mfL m e o).toArray)) w := by
  refine zCn (ps := [(0, x), (1, y)]) ht hz hp ?_
  simp only [List.map_cons, List.map_nil, hx, hy]
  exact fill_km k m.id m.base m.fin m.time e o _ _
end Go.Proofs.YtdkgdjnbpjjfmaaGreatDoor
namespace Go.Proofs.YtdkgdjnbpjjfmaaGreatDoor
set_option linter.all false
open Go.RowKit
attribute [local irreducible] zAo
variable {g w : World} {L M : List HP} {ad : Nat → Addr} {p : Nat} {V : Vw}

/-- What Apply answers and leaves. -/
def ApR (g : World) (ad : Nat → Addr) (L : List HP) (p : Nat) (r : Flt × Vw) (v : Value) (w' : World) : Prop := ∃ eb, v = flV ad r.1 eb ∧ Mem g w' (flC ad r.1 eb :: zEx p r.2 :: L)
theorem ApR.bare {c : Nat} (hs : Mem g w (zEx p V :: L)) : ApR g ad L p ((c, none), V) (zAo ad c) w := ⟨0, rfl, hs.addE (emp_okF w)⟩
theorem Vw.apply_bad {k : Int} {x : Mf} (h : (mfF x).1 ≠ 0) : V.apply k x = (mfF x, V) := by rw [Vw.apply, if_pos h]
theorem Vw.apply_kind {k : Int} {x : Mf} (h : (mfF x).1 = 0) (h2 : k < 1 ∨ 4 < k) : V.apply k x = ((112, none), V) := by rw [Vw.apply, if_neg (by simpa using h), if_pos h2]
theorem Vw.apply_state {k : Int} {x : Mf} (h : (mfF x).1 = 0) (h2 : ¬ (k < 1 ∨ 4 < k)) (h3 : nextB (V.state x.id) k = false) : V.apply k x = ((113, none), V) := by rw [Vw.apply, if_neg (by simpa using h), if_neg h2, if_pos h3]
theorem Vw.apply_new {k : Int} {x : Mf} (h : (mfF x).1 = 0) (h2 : ¬ (k < 1 ∨ 4 < k)) (h3 : nextB (V.state x.id) k = true) (hV : zB1 V x.id = none) : V.apply k x = if 4096 ≤ V.length then ((104, none), V) else ((0, none), zC9 V x.id ⟨k, x⟩) := by rw [Vw.apply, if_neg (by simpa using h), if_neg h2, if_neg (by rw [h3]; decide), hV]
theorem Vw.apply_old {k : Int} {x : Mf} {i : Itm} (h : (mfF x).1 = 0) (h2 : ¬ (k < 1 ∨ 4 < k)) (h3 : nextB (V.state x.id) k = true) (hV : zB1 V x.id = some i) : V.apply k x = if i.m = x then ((0, none), zC9 V x.id ⟨k, x⟩) else ((103, none), V) := by rw [Vw.apply, if_neg (by simpa using h), if_neg h2, if_neg (by rw [h3]; decide), hV]
theorem flt0 {f : Flt} (hf : FltOk f) (h : f.1 = 0) : f = (0, none) := by
  rcases hf.1 with h1 | h1
  · exact h1
  · rw [h] at h1; simp at h1
set_option maxHeartbeats 1000000 in
theorem apply_sl (hE : ErrV ad g) (hs : Mem g w (zEx p V :: L)) (k : Int) {x : Mf} {e o : SA} (hm : MfR g L x e o) (hob : x.obs.length ≤ 1000000) : Calls Tryz.prog 14 #[.pointer (some ⟨p, 0, none⟩), .agg (.int .i64 k :: mfL x e o).toArray] w (Ret (ApR g ad L p (V.apply k x))) := by
  obtain ⟨ho, m, es, hs⟩ := hs.openV
  simp only [viewP, List.cons_append, List.nil_append] at hs
  have hke := hs.famKeys 2 rfl
  cases hV : zB1 V x.id with
  | none =>
    have hes := fam_none hke hV
    have hst : V.state x.id = 0 := by simp [Vw.state, hV]
    refine zAm Tryz.func14 rfl rfl ?_
    skip
    refine zA5 (zA1 ?_)
    refine zCd (v := .agg _) hs rfl rfl ?_
    clear hs
    intro b3 w hs
    try simp only [List.set_cons_succ, List.set_cons_zero] at hs
    refine zA rfl (zA2 (v := .nilIface) rfl) ?_
    refine zA4 ?_
    refine zA5 ?_
    refine zA5 (zA1 ?_)
    refine zA rfl (zA3 (o' := 1) uz41 rfl zDj rfl rfl rfl) ?_
    refine zA rfl (zCe hs 0 (mfL x e o) rfl zBx zDj rfl rfl) ?_
    refine zAa rfl en40 (validM_sl hE hs hm.cons.cons.cons.cons hob) ?_
    clear hs
    rintro _ w ⟨eb, rfl, hs⟩
    refine zA rfl (zA2 (v := flV ad _ _) rfl) ?_
    refine zA4 (zA5 (zA1 ?_))
    refine zA rfl (zA0 (v := flV ad _ _) rfl) ?_
    refine zA rfl (run_neF (mfF_ok x).place rfl) ?_
    refine zA4 ?_
    refine zB7 rfl ?_ ?_
    ·
     intro h12
     have g12 := ne_t h12
     refine zA5 (zA1 ?_)
     refine zA rfl (zA0 (v := flV ad _ _) rfl) ?_
     refine zA rfl (zA2 (v := flV ad _ _) rfl) ?_
     refine zA4 ?_
     refine zAf ?_
     refine zBg (v := flV ad _ _) rfl rfl ?_
     have h0 : (mfF x).1 ≠ 0 := by simpa using h12
     rw [Vw.apply_bad h0]
     exact ⟨_, rfl, eb, rfl, Mem.closeV1 ho (hs.arr [0, 2, 3, 4] 5 (by decide))⟩
    ·
     intro h12
     have g12 := ne_f h12
     have h0 : (mfF x).1 = 0 := by simpa using h12
     replace hs := hs.tail
     refine zAd ?_
     refine zA5 ?_
     refine zA5 (zA1 ?_)
     refine zA rfl (zA3 (o' := 0) uz41 rfl sz3 rfl rfl rfl) ?_
     refine zA rfl (zA7 uz3 rfl rfl (hs.cellAt 0 rfl rfl)) ?_
     refine zA rfl (zB3 rfl rfl) ?_
     refine zA rfl (zA0 (v := .bool _) rfl) ?_
     refine zB4 (t := _) (d := 17) rfl ?_ ?_
     ·
      intro h16
      have g16 := of_decide_eq_true h16
      refine zA9 rfl rfl rfl h16 ?_
      refine zA9 rfl rfl rfl h16 ?_
      refine zA9 rfl rfl rfl h16 ?_
      refine zA rfl (zAi (v := .bool _) rfl h16 rfl) ?_
      refine zA4 ?_
      refine zB9 rfl rfl ?_
      refine zA5 (zA1 ?_)
      refine zA rfl (zA7 zCv rfl rfl (hE.cellW hs 112 (by decide) rfl)) ?_
      refine zA rfl (zA2 (v := zAo ad _) rfl) ?_
      refine zA4 ?_
      refine zAf ?_
      refine zBg (v := zAo ad _) rfl rfl ?_
      rw [Vw.apply_kind h0 (by omega)]
      exact ⟨_, rfl, ApR.bare (Mem.closeV ho hs.tail)⟩
     ·
      intro h16
      have g16 := of_decide_eq_false h16
      refine zAk rfl rfl h16 ?_
      refine zA rfl (zA3 (o' := 0) uz41 rfl sz3 rfl rfl rfl) ?_
      refine zAk rfl rfl h16 ?_
      refine zA rfl (zA7 uz3 rfl rfl (hs.cellAt 0 rfl rfl)) ?_
      refine zAk rfl rfl h16 ?_
      refine zA rfl (zBi rfl rfl) ?_
      refine zA rfl (zAj (v := .bool _) rfl h16 rfl) ?_
      refine zA4 ?_
      refine zB7 rfl ?_ ?_
      ·
       intro h20
       have g20 := of_decide_eq_true h20
       refine zA5 (zA1 ?_)
       refine zA rfl (zA7 zCv rfl rfl (hE.cellW hs 112 (by decide) rfl)) ?_
       refine zA rfl (zA2 (v := zAo ad _) rfl) ?_
       refine zA4 ?_
       refine zAf ?_
       refine zBg (v := zAo ad _) rfl rfl ?_
       rw [Vw.apply_kind h0 (by omega)]
       exact ⟨_, rfl, ApR.bare (Mem.closeV ho hs.tail)⟩
      ·
       intro h20
       have g20 := of_decide_eq_false h20
       refine zAd ?_
       refine zA5 ?_
       refine zAw zBt hs ?_
       intro w tr hK
       replace hs := tr _ hs
       clear tr
       refine zA6 0 rfl rfl (fun w hs => zA0 (v := .pointer (some _)) rfl) hK ?_
       refine zA6 1 rfl rfl (fun w hs => zA8 rfl) hK ?_
       refine zA6 2 rfl rfl (fun w hs => zA3 (o' := 0) uz79 rfl sz77 rfl rfl rfl) hK ?_
       refine zA6 3 rfl rfl (fun w hs => zA7 uz77 rfl rfl (hs.cellAt 1 rfl rfl)) hK ?_
       refine zA6 4 rfl rfl (fun w hs => zA3 (o' := 1) uz41 rfl zDj rfl rfl rfl) hK ?_
       refine zA6 5 rfl rfl (fun w hs => zA3 zBx rfl sz3 rfl rfl rfl) hK ?_
       refine zA6 6 rfl rfl (fun w hs => zA7 uz3 rfl rfl (hs.cellAt 0 rfl rfl)) hK ?_
       refine zA6 7 rfl rfl (fun w hs => zEq (hs.mapAt 2 rfl) zEh uz77 uz3 ze85 rfl rfl (o := none) hes) hK ?_
       refine zA6 8 rfl rfl (fun w hs => zA0 (v := .tuple _) rfl) hK ?_
       refine zA6 9 rfl rfl (fun w hs => zAc (v := .agg _) rfl rfl) hK ?_
       refine zA6 10 rfl rfl (fun w hs => zAc (v := .bool _) rfl rfl) hK ?_
       refine zAb [11] ?_
       refine ⟨⟨_, rfl, ?_⟩, trivial⟩
       refine zBh hs rfl ze85 ?_
       clear hs
       intro b6 w hs
       try simp only [List.set_cons_succ, List.set_cons_zero] at hs
       clear hK
       have hK := hs.tail
       refine zA4 ⟨hK, ?_⟩
       refine zAb [12] ?_
       refine ⟨⟨_, rfl, ?_⟩, trivial⟩
       refine zAq hs 0 rfl rfl rfl sz85 rfl rfl ?_
       clear hs
       intro w hs
       try simp only [List.set_cons_succ, List.set_cons_zero] at hs
       clear hK
       have hK := hs.tail
       refine zA4 ⟨hK, ?_⟩
       refine zA6 13 rfl rfl (fun w hs => zA2 (v := .bool _) rfl) hK ?_
       refine zAs (by kernel_rfl) ?_
       clear hK
       refine zA5 ?_
       refine zAt ?_
       refine zA5 (zA1 ?_)
       refine zA rfl (zA3 (o' := 0) uz85 rfl sz3 rfl rfl rfl) ?_
       refine zA rfl (zA7 uz3 rfl rfl (hs.cellAt 0 rfl rfl)) ?_
       refine zA rfl (zA3 (o' := 0) uz41 rfl sz3 rfl rfl rfl) ?_
       refine zA rfl (zA7 uz3 rfl rfl (hs.cellAt 1 rfl rfl)) ?_
       refine zAa rfl en41 (nextE_sl hs 0 k) ?_
       clear hs
       rintro _ w ⟨rfl, hs⟩
       refine zA rfl (zBz rfl) ?_
       refine zA rfl (zA2 (v := .bool _) rfl) ?_
       refine zA4 ?_
       refine zB7 rfl ?_ ?_
       ·
        intro h39
        replace h39 := zEl h39
        refine zA5 (zA1 ?_)
        refine zA rfl (zA7 zCv rfl rfl (hE.cellW hs 113 (by decide) rfl)) ?_
        refine zA rfl (zA2 (v := zAo ad _) rfl) ?_
        refine zA4 ?_
        refine zAf ?_
        refine zBg (v := zAo ad _) rfl rfl ?_
        rw [Vw.apply_state h0 (by omega) (by rw [hst]; exact h39)]
        exact ⟨_, rfl, ApR.bare (Mem.closeV ho hs.tail.tail)⟩
       ·
        intro h39
        replace h39 := zE h39
        refine zA5 (zA1 ?_)
        refine zA rfl (zA0 (v := .bool _) rfl) ?_
        refine zA rfl (zBz rfl) ?_
        refine zA rfl (zA0 (v := .bool _) rfl) ?_
        refine zAk rfl rfl (zC7 (rfl)) ?_
        refine zA rfl (zA0 (v := .pointer (some _)) rfl) ?_
        refine zAk rfl rfl (zC7 (rfl)) ?_
        refine zA rfl (zA8 rfl) ?_
        refine zAk rfl rfl (zC7 (rfl)) ?_
        refine zA rfl (zA3 (o' := 0) uz79 rfl sz77 rfl rfl rfl) ?_
        refine zAk rfl rfl (zC7 (rfl)) ?_
        refine zA rfl (zA7 uz77 rfl rfl (hs.cellAt 2 rfl rfl)) ?_
        refine zAk rfl rfl (zC7 (rfl)) ?_
        refine zA rfl (run_lenM (hs.mapAt 3 rfl) uz77 rfl) ?_
        refine zAk rfl rfl (zC7 (rfl)) ?_
        refine zA rfl (zD1 rfl rfl) ?_
        refine zA rfl (zAi (v := .bool _) rfl (zC7 (rfl)) rfl) ?_
        refine zA rfl (zA2 (v := .bool _) rfl) ?_
        refine zA4 ?_
        refine zB7 rfl ?_ ?_
        ·
         intro h51
         have g51 := of_decide_eq_true h51
         refine zA5 (zA1 ?_)
         refine zA rfl (zA7 zCv rfl rfl (hE.cellW hs 104 (by decide) rfl)) ?_
         refine zA rfl (zA2 (v := zAo ad _) rfl) ?_
         refine zA4 ?_
         refine zAf ?_
         refine zBg (v := zAo ad _) rfl rfl ?_
         have hl := keys_len hke
         rw [Vw.apply_new h0 (by omega) (by rw [hst]; exact h39) hV, if_pos (by omega)]
         exact ⟨_, rfl, ApR.bare (Mem.closeV ho hs.tail.tail)⟩
        ·
         intro h51
         have g51 := of_decide_eq_false h51
         refine zA5 (zA1 ?_)
         refine zA rfl (zA0 (v := .bool _) rfl) ?_
         refine zA rfl (zA0 (v := .bool _) rfl) ?_
         refine zA9 rfl rfl rfl (rfl) ?_
         refine zA9 rfl rfl rfl (rfl) ?_
         refine zA9 rfl rfl rfl (rfl) ?_
         refine zA9 rfl rfl rfl (rfl) ?_
         refine zA9 rfl rfl rfl (rfl) ?_
         refine zA9 rfl rfl rfl (rfl) ?_
         refine zA rfl (zAj (v := .bool _) rfl (rfl) rfl) ?_
         refine zA rfl (zA2 (v := .bool _) rfl) ?_
         refine zA4 ?_
         refine zB rfl rfl ?_
         refine zAd ?_
         refine zA5 ?_
         refine zAw zBt (hs.drop 3) ?_
         intro w tr hK
         replace hs := tr _ hs
         clear tr
         refine zA6 0 rfl rfl (fun w hs => zA0 (v := .pointer (some _)) rfl) hK ?_
         refine zA6 1 rfl rfl (fun w hs => zA8 rfl) hK ?_
         refine zA6 2 rfl rfl (fun w hs => zA3 (o' := 0) uz79 rfl sz77 rfl rfl rfl) hK ?_
         refine zA6 3 rfl rfl (fun w hs => zA7 uz77 rfl rfl (hs.cellAt 2 rfl rfl)) hK ?_
         refine zA6 4 rfl rfl (fun w hs => zA3 (o' := 1) uz41 rfl zDj rfl rfl rfl) hK ?_
         refine zA6 5 rfl rfl (fun w hs => zA3 zBx rfl sz3 rfl rfl rfl) hK ?_
         refine zA6 6 rfl rfl (fun w hs => zA7 uz3 rfl rfl (hs.cellAt 1 rfl rfl)) hK ?_
         refine zA6 7 rfl rfl (fun w hs => zA3 (o' := 0) uz41 rfl sz3 rfl rfl rfl) hK ?_
         refine zA6 8 rfl rfl (fun w hs => zA7 uz3 rfl rfl (hs.cellAt 1 rfl rfl)) hK ?_
         refine zA6 9 rfl rfl (fun w hs => zA3 (o' := 1) uz41 rfl zDj rfl rfl rfl) hK ?_
         refine zA6 10 rfl rfl (fun w hs => zCe hs 1 (mfL x e o) rfl zBx zDj rfl rfl) hK ?_
         refine zAb [11] ?_
         refine ⟨⟨_, rfl, ?_⟩, trivial⟩
         refine zAa rfl en43 (cloneM_sl hs hm.cons.cons.cons.cons.cons (by have := mf_len h0; omega) (by have := mf_len h0; omega)) ?_
         clear hs
         rintro _ w ⟨s1, s2, rfl, hs⟩
         clear hK
         have hK := hs.tail.tail.drop 3
         refine zA4 ⟨hK, ?_⟩
         refine @aw_take _ _ _ _ _ _ _ _ _ _ _ _ _ _ 12 _ rfl (by kernel_rfl) (by kernel_rfl) (by kernel_rfl) rfl (fun w hs => zFc (k := k) (m := x) (e := s1) (o := s2) uz85 ze85 pl85 rfl rfl) hK ?_
         refine zAb [13] ?_
         refine ⟨⟨_, rfl, ?_⟩, trivial⟩
         refine zDh (v := .agg _) hs 5 rfl zEh uz77 uz3 rfl rfl rfl ?_
         clear hs
         intro w hs
         try simp only [List.set_cons_succ, List.set_cons_zero] at hs
         clear hK
         have hK := hs.tail.tail.drop 3
         refine zA4 ⟨hK, ?_⟩
         refine zAs (by kernel_rfl) ?_
         clear hK
         refine zA5 (zA1 ?_)
         refine zA rfl (zA2 (v := .nilIface) rfl) ?_
         refine zA4 ?_
         refine zAf ?_
         refine zBg (v := .nilIface) rfl rfl ?_
         rw [Vw.apply_new h0 (by omega) (by rw [hst]; exact h39) hV, if_neg (by have := keys_len hke; omega)]
         have h1 := Mem.closeItm (i := ⟨k, x⟩) (hs.arr [0, 1, 4, 5, 6] 7 (by decide))
         have h2 := Mem.famPut (R := itmC) (k := x.id) h1 2 rfl (fun _ h => False.elim h)
         have hok := Vw.apply_ok ho k x
         rw [Vw.apply_new h0 (by omega) (by rw [hst]; exact h39) hV, if_neg (by have := keys_len hke; omega)] at hok
         exact ⟨_, rfl, by rw [← zB2 ad]; exact ApR.bare (Mem.closeV hok h2)⟩
  | some i =>
    obtain ⟨ei, oi, hes, hmi⟩ := hs.itmAt 2 rfl hV
    have hit := ho.item hV
    have hst : V.state x.id = i.st := by simp [Vw.state, hV]
    refine zAm Tryz.func14 rfl rfl ?_
    skip
    refine zA5 (zA1 ?_)
    refine zCd (v := .agg _) hs rfl rfl ?_
    clear hs
    intro b3 w hs
    try simp only [List.set_cons_succ, List.set_cons_zero] at hs
    refine zA rfl (zA2 (v := .nilIface) rfl) ?_
    refine zA4 ?_
    refine zA5 ?_
    refine zA5 (zA1 ?_)
    refine zA rfl (zA3 (o' := 1) uz41 rfl zDj rfl rfl rfl) ?_
    refine zA rfl (zCe hs 0 (mfL x e o) rfl zBx zDj rfl rfl) ?_
    refine zAa rfl en40 (validM_sl hE hs hm.cons.cons.cons.cons hob) ?_
    clear hs
    rintro _ w ⟨eb, rfl, hs⟩
    refine zA rfl (zA2 (v := flV ad _ _) rfl) ?_
    refine zA4 (zA5 (zA1 ?_))
    refine zA rfl (zA0 (v := flV ad _ _) rfl) ?_
    refine zA rfl (run_neF (mfF_ok x).place rfl) ?_
    refine zA4 ?_
    refine zB7 rfl ?_ ?_
    ·
     intro h12
     have g12 := ne_t h12
     refine zA5 (zA1 ?_)
     refine zA rfl (zA0 (v := flV ad _ _) rfl) ?_
     refine zA rfl (zA2 (v := flV ad _ _) rfl) ?_
     refine zA4 ?_
     refine zAf ?_
     refine zBg (v := flV ad _ _) rfl rfl ?_
     have h0 : (mfF x).1 ≠ 0 := by simpa using h12
     rw [Vw.apply_bad h0]
     exact ⟨_, rfl, eb, rfl, Mem.closeV1 ho (hs.arr [0, 2, 3, 4] 5 (by decide))⟩
    ·
     intro h12
     have g12 := ne_f h12
     have h0 : (mfF x).1 = 0 := by simpa using h12
     replace hs := hs.tail
     refine zAd ?_
     refine zA5 ?_
     refine zA5 (zA1 ?_)
     refine zA rfl (zA3 (o' := 0) uz41 rfl sz3 rfl rfl rfl) ?_
     refine zA rfl (zA7 uz3 rfl rfl (hs.cellAt 0 rfl rfl)) ?_
     refine zA rfl (zB3 rfl rfl) ?_
     refine zA rfl (zA0 (v := .bool _) rfl) ?_
     refine zB4 (t := _) (d := 17) rfl ?_ ?_
     ·
      intro h16
      have g16 := of_decide_eq_true h16
      refine zA9 rfl rfl rfl h16 ?_
      refine zA9 rfl rfl rfl h16 ?_
      refine zA9 rfl rfl rfl h16 ?_
      refine zA rfl (zAi (v := .bool _) rfl h16 rfl) ?_
      refine zA4 ?_
      refine zB9 rfl rfl ?_
      refine zA5 (zA1 ?_)
      refine zA rfl (zA7 zCv rfl rfl (hE.cellW hs 112 (by decide) rfl)) ?_
      refine zA rfl (zA2 (v := zAo ad _) rfl) ?_
      refine zA4 ?_
      refine zAf ?_
      refine zBg (v := zAo ad _) rfl rfl ?_
      rw [Vw.apply_kind h0 (by omega)]
      exact ⟨_, rfl, ApR.bare (Mem.closeV ho hs.tail)⟩
     ·
      intro h16
      have g16 := of_decide_eq_false h16
      refine zAk rfl rfl h16 ?_
      refine zA rfl (zA3 (o' := 0) uz41 rfl sz3 rfl rfl rfl) ?_
      refine zAk rfl rfl h16 ?_
      refine zA rfl (zA7 uz3 rfl rfl (hs.cellAt 0 rfl rfl)) ?_
      refine zAk rfl rfl h16 ?_
      refine zA rfl (zBi rfl rfl) ?_
      refine zA rfl (zAj (v := .bool _) rfl h16 rfl) ?_
      refine zA4 ?_
      refine zB7 rfl ?_ ?_
      ·
       intro h20
       have g20 := of_decide_eq_true h20
       refine zA5 (zA1 ?_)
       refine zA rfl (zA7 zCv rfl rfl (hE.cellW hs 112 (by decide) rfl)) ?_
       refine zA rfl (zA2 (v := zAo ad _) rfl) ?_
       refine zA4 ?_
       refine zAf ?_
       refine zBg (v := zAo ad _) rfl rfl ?_
       rw [Vw.apply_kind h0 (by omega)]
       exact ⟨_, rfl, ApR.bare (Mem.closeV ho hs.tail)⟩
      ·
       intro h20
       have g20 := of_decide_eq_false h20
       refine zAd ?_
       refine zA5 ?_
       refine zAw zBt hs ?_
       intro w tr hK
       replace hs := tr _ hs
       clear tr
       refine zA6 0 rfl rfl (fun w hs => zA0 (v := .pointer (some _)) rfl) hK ?_
       refine zA6 1 rfl rfl (fun w hs => zA8 rfl) hK ?_
       refine zA6 2 rfl rfl (fun w hs => zA3 (o' := 0) uz79 rfl sz77 rfl rfl rfl) hK ?_
       refine zA6 3 rfl rfl (fun w hs => zA7 uz77 rfl rfl (hs.cellAt 1 rfl rfl)) hK ?_
       refine zA6 4 rfl rfl (fun w hs => zA3 (o' := 1) uz41 rfl zDj rfl rfl rfl) hK ?_
       refine zA6 5 rfl rfl (fun w hs => zA3 zBx rfl sz3 rfl rfl rfl) hK ?_
       refine zA6 6 rfl rfl (fun w hs => zA7 uz3 rfl rfl (hs.cellAt 0 rfl rfl)) hK ?_
       refine zA6 7 rfl rfl (fun w hs => zEq (hs.mapAt 2 rfl) zEh uz77 uz3 ze85 rfl rfl (o := some (itmV i ei oi)) hes) hK ?_
       refine zA6 8 rfl rfl (fun w hs => zA0 (v := .tuple _) rfl) hK ?_
       refine zA6 9 rfl rfl (fun w hs => zAc (v := .agg _) rfl rfl) hK ?_
       refine zA6 10 rfl rfl (fun w hs => zAc (v := .bool _) rfl rfl) hK ?_
       refine zAb [11] ?_
       refine ⟨⟨_, rfl, ?_⟩, trivial⟩
       refine zBh hs rfl ze85 ?_
       clear hs
       intro b6 w hs
       try simp only [List.set_cons_succ, List.set_cons_zero] at hs
       clear hK
       have hK := hs.tail
       refine zA4 ⟨hK, ?_⟩
       refine zAb [12] ?_
       refine ⟨⟨_, rfl, ?_⟩, trivial⟩
       refine zAq hs 0 rfl rfl rfl sz85 rfl rfl ?_
       clear hs
       intro w hs
       try simp only [List.set_cons_succ, List.set_cons_zero] at hs
       clear hK
       have hK := hs.tail
       refine zA4 ⟨hK, ?_⟩
       refine zA6 13 rfl rfl (fun w hs => zA2 (v := .bool _) rfl) hK ?_
       refine zAs (by kernel_rfl) ?_
       clear hK
       refine zA5 ?_
       refine zAt ?_
       refine zA5 (zA1 ?_)
       refine zA rfl (zA3 (o' := 0) uz85 rfl sz3 rfl rfl rfl) ?_
       refine zA rfl (zA7 uz3 rfl rfl (hs.cellAt 0 rfl rfl)) ?_
       refine zA rfl (zA3 (o' := 0) uz41 rfl sz3 rfl rfl rfl) ?_
       refine zA rfl (zA7 uz3 rfl rfl (hs.cellAt 1 rfl rfl)) ?_
       refine zAa rfl en41 (nextE_sl hs i.st k) ?_
       clear hs
       rintro _ w ⟨rfl, hs⟩
       refine zA rfl (zBz rfl) ?_
       refine zA rfl (zA2 (v := .bool _) rfl) ?_
       refine zA4 ?_
       refine zB7 rfl ?_ ?_
       ·
        intro h39
        replace h39 := zEl h39
        refine zA5 (zA1 ?_)
        refine zA rfl (zA7 zCv rfl rfl (hE.cellW hs 113 (by decide) rfl)) ?_
        refine zA rfl (zA2 (v := zAo ad _) rfl) ?_
        refine zA4 ?_
        refine zAf ?_
        refine zBg (v := zAo ad _) rfl rfl ?_
        rw [Vw.apply_state h0 (by omega) (by rw [hst]; exact h39)]
        exact ⟨_, rfl, ApR.bare (Mem.closeV ho hs.tail.tail)⟩
       ·
        intro h39
        replace h39 := zE h39
        refine zA5 (zA1 ?_)
        refine zA rfl (zA0 (v := .bool _) rfl) ?_
        refine zA rfl (zBz rfl) ?_
        refine zA rfl (zA0 (v := .bool _) rfl) ?_
        refine zA9 rfl rfl rfl (zBu (rfl)) ?_
        refine zA9 rfl rfl rfl (zBu (rfl)) ?_
        refine zA9 rfl rfl rfl (zBu (rfl)) ?_
        refine zA9 rfl rfl rfl (zBu (rfl)) ?_
        refine zA9 rfl rfl rfl (zBu (rfl)) ?_
        refine zA9 rfl rfl rfl (zBu (rfl)) ?_
        refine zA rfl (zAj (v := .bool _) rfl (zBu (rfl)) rfl) ?_
        refine zA rfl (zA2 (v := .bool _) rfl) ?_
        refine zA4 ?_
        refine zB rfl rfl ?_
        refine zA5 (zA1 ?_)
        refine zA rfl (zA0 (v := .bool _) rfl) ?_
        refine zA rfl (zA0 (v := .bool _) rfl) ?_
        refine zAk rfl rfl (rfl) ?_
        refine zA rfl (zA3 (o' := 1) uz85 rfl zDj rfl rfl rfl) ?_
        refine zAk rfl rfl (rfl) ?_
        refine zA rfl (zCe hs 0 (mfL i.m ei oi) rfl zBx zDj rfl rfl) ?_
        refine zAk rfl rfl (rfl) ?_
        refine zA rfl (zA3 (o' := 1) uz41 rfl zDj rfl rfl rfl) ?_
        refine zAk rfl rfl (rfl) ?_
        refine zA rfl (zCe hs 1 (mfL x e o) rfl zBx zDj rfl rfl) ?_
        refine zAk rfl rfl (rfl) ?_
        refine zAa rfl en42 (sameM_sl hs hmi.cons.cons hm.cons.cons.cons.cons.cons (by omega) (by omega)) ?_
        clear hs
        rintro _ w ⟨rfl, hs⟩
        refine zAk rfl rfl (rfl) ?_
        refine zA rfl (zBz rfl) ?_
        refine zA rfl (zAi (v := .bool _) rfl (rfl) rfl) ?_
        refine zA rfl (zA2 (v := .bool _) rfl) ?_
        refine zA4 ?_
        refine zB7 rfl ?_ ?_
        ·
         intro h61
         replace h61 := zEl h61
         refine zA5 (zA1 ?_)
         refine zA rfl (zA7 zCv rfl rfl (hE.cellW hs 103 (by decide) rfl)) ?_
         refine zA rfl (zA2 (v := zAo ad _) rfl) ?_
         refine zA4 ?_
         refine zAf ?_
         refine zBg (v := zAo ad _) rfl rfl ?_
         rw [Vw.apply_old h0 (by omega) (by rw [hst]; exact h39) hV, if_neg (of_decide_eq_false h61)]
         exact ⟨_, rfl, ApR.bare (Mem.closeV ho hs.tail.tail)⟩
        ·
         intro h61
         replace h61 := zE h61
         refine zAd ?_
         refine zA5 ?_
         refine zAw zBt (hs.drop 3) ?_
         intro w tr hK
         replace hs := tr _ hs
         clear tr
         refine zA6 0 rfl rfl (fun w hs => zA0 (v := .pointer (some _)) rfl) hK ?_
         refine zA6 1 rfl rfl (fun w hs => zA8 rfl) hK ?_
         refine zA6 2 rfl rfl (fun w hs => zA3 (o' := 0) uz79 rfl sz77 rfl rfl rfl) hK ?_
         refine zA6 3 rfl rfl (fun w hs => zA7 uz77 rfl rfl (hs.cellAt 2 rfl rfl)) hK ?_
         refine zA6 4 rfl rfl (fun w hs => zA3 (o' := 1) uz41 rfl zDj rfl rfl rfl) hK ?_
         refine zA6 5 rfl rfl (fun w hs => zA3 zBx rfl sz3 rfl rfl rfl) hK ?_
         refine zA6 6 rfl rfl (fun w hs => zA7 uz3 rfl rfl (hs.cellAt 1 rfl rfl)) hK ?_
         refine zA6 7 rfl rfl (fun w hs => zA3 (o' := 0) uz41 rfl sz3 rfl rfl rfl) hK ?_
         refine zA6 8 rfl rfl (fun w hs => zA7 uz3 rfl rfl (hs.cellAt 1 rfl rfl)) hK ?_
         refine zA6 9 rfl rfl (fun w hs => zA3 (o' := 1) uz41 rfl zDj rfl rfl rfl) hK ?_
         refine zA6 10 rfl rfl (fun w hs => zCe hs 1 (mfL x e o) rfl zBx zDj rfl rfl) hK ?_
         refine zAb [11] ?_
         refine ⟨⟨_, rfl, ?_⟩, trivial⟩
         refine zAa rfl en43 (cloneM_sl hs hm.cons.cons.cons.cons.cons (by have := mf_len h0; omega) (by have := mf_len h0; omega)) ?_
         clear hs
         rintro _ w ⟨s1, s2, rfl, hs⟩
         clear hK
         have hK := hs.tail.tail.drop 3
         refine zA4 ⟨hK, ?_⟩
         refine @aw_take _ _ _ _ _ _ _ _ _ _ _ _ _ _ 12 _ rfl (by kernel_rfl) (by kernel_rfl) (by kernel_rfl) rfl (fun w hs => zFc (k := k) (m := x) (e := s1) (o := s2) uz85 ze85 pl85 rfl rfl) hK ?_
         refine zAb [13] ?_
         refine ⟨⟨_, rfl, ?_⟩, trivial⟩
         refine zDh (v := .agg _) hs 5 rfl zEh uz77 uz3 rfl rfl rfl ?_
         clear hs
         intro w hs
         try simp only [List.set_cons_succ, List.set_cons_zero] at hs
         clear hK
         have hK := hs.tail.tail.drop 3
         refine zA4 ⟨hK, ?_⟩
         refine zAs (by kernel_rfl) ?_
         clear hK
         refine zA5 (zA1 ?_)
         refine zA rfl (zA2 (v := .nilIface) rfl) ?_
         refine zA4 ?_
         refine zAf ?_
         refine zBg (v := .nilIface) rfl rfl ?_
         rw [Vw.apply_old h0 (by omega) (by rw [hst]; exact h39) hV, if_pos (of_decide_eq_true h61)]
         have h1 := Mem.closeItm (i := ⟨k, x⟩) (hs.arr [0, 1, 4, 5, 6] 7 (by decide))
         have h2 := Mem.famPut (R := itmC) (k := x.id) h1 2 rfl (fun _ h => False.elim h)
         have hok := Vw.apply_ok ho k x
         rw [Vw.apply_old h0 (by omega) (by rw [hst]; exact h39) hV, if_pos (of_decide_eq_true h61)] at hok
         exact ⟨_, rfl, by rw [← zB2 ad]; exact ApR.bare (Mem.closeV hok h2)⟩
end Go.Proofs.YtdkgdjnbpjjfmaaGreatDoor
namespace Go.Proofs.YtdkgdjnbpjjfmaaGreatDoor
set_option linter.all false
open Go.RowKit
variable {w : World}
theorem run_max {P : Program} {ρ : Env} {dst : Option Tmp} {ty : TypeId} {pos : String} {aft : Array Edge} {x y : Operand} {ts : Array TypeId} {k : IntKind} {a b : Int} (hx : ev ρ x = .int k a) (hy : ev ρ y = .int k b) : (execOp (ev ρ) ⟨dst, .call { callee := .builtin .max, args := #[x, y], argTypes := ts }, ty, pos, aft, none⟩).run P w = .ok (.value (.int k (max a b))) w := by
  have : (if a < b then b else a) = max a b := by
    rw [Int.max_def]; split <;> split <;> omega
  simp [execOp, resolve, invoke, builtin, Builtin.max_, hx, hy, Builtin.max2, this]
end Go.Proofs.YtdkgdjnbpjjfmaaGreatDoor
namespace Go.Proofs.YtdkgdjnbpjjfmaaGreatDoor
set_option linter.all false
open Go.RowKit
attribute [local irreducible] zAo
variable {g w : World} {L M : List HP} {ad : Nat → Addr} {p : Nat} {V : Vw}

/-- One above all IDs. -/
def Vw.top : Vw → Int
  | [] => 0
  | x :: V => max (x.1 + 1) (Vw.top V)
theorem Vw.top_ge : ∀ {V : Vw} {k : Int}, k ∈ zAg V → k + 1 ≤ V.top
  | x :: V, k, h => by
    simp only [zAg, List.map_cons, List.mem_cons] at h
    simp only [Vw.top]
    rcases h with rfl | h
    · omega
    · have := Vw.top_ge (V := V) h
      omega
theorem Vw.top_in : ∀ (V : Vw), (∀ k ∈ zAg V, 0 ≤ k) → V.top = 0 ∧ V = [] ∨ ∃ k ∈ zAg V, V.top = k + 1
  | [], _ => .inl ⟨rfl, rfl⟩
  | x :: V, h => by
    have hx := h x.1 (List.mem_cons_self ..)
    rcases Vw.top_in V (fun k hk => h k (List.mem_cons_of_mem _ hk)) with ⟨h1, _⟩ | ⟨k, hk, h1⟩
    · refine .inr ⟨x.1, List.mem_cons_self .., ?_⟩
      simp only [Vw.top]; omega
    · rcases Int.le_total (x.1 + 1) (k + 1) with h2 | h2
      · exact .inr ⟨k, List.mem_cons_of_mem _ hk, by simp only [Vw.top]; omega⟩
      · exact .inr ⟨x.1, List.mem_cons_self .., by simp only [Vw.top]; omega⟩
theorem mf_id {x : Mf} (h : (mfF x).1 = 0) : 0 ≤ x.id ∧ x.id ≤ 2147483647 := by
  unfold mfF at h
  split at h
  · cases h
  · rename_i h1
    simp only [zBd, Bool.or_eq_true, decide_eq_true_eq, not_or] at h1
    omega
theorem Vw.ok.ids (h : V.ok) {k : Int} (hk : k ∈ zAg V) : 0 ≤ k ∧ k ≤ 2147483647 := by
  obtain ⟨x, hx, rfl⟩ := List.mem_map.1 hk
  have h1 := h.fine x hx
  have := mf_id h1.1
  rw [h1.2.1] at this
  exact this
structure NxI (V : Vw) (es left : List (Int × Value)) (m : Int) : Prop where
  nd : (zAg left).Nodup
  sub : ∀ k v, zB1 left k = some v → zB1 es k = some v
  ge : ∀ k ∈ zAg V, zB1 left k = none → k + 1 ≤ m
  has : m = 0 ∨ ∃ k ∈ zAg V, m = k + 1
theorem NxI.step {es left : List (Int × Value)} {m : Int} (h : NxI V es left m) {k : Int} (hk : k ∈ zAg V) : NxI V es (zDq left k) (max m (k + 1)) := by
  refine ⟨nodup_del h.nd k, fun j v hj => ?_, fun j hj hn => ?_, ?_⟩
  · by_cases e : j = k
    · subst e; rw [zEa h.nd] at hj; cases hj
    · rw [zCa _ e] at hj; exact h.sub j v hj
  · by_cases e : j = k
    · subst e; omega
    · rw [zCa _ e] at hn; have := h.ge j hj hn; omega
  · rcases Int.le_total m (k + 1) with h2 | h2
    · exact .inr ⟨k, hk, by omega⟩
    · rw [Int.max_eq_left h2]; exact h.has
theorem NxI.over {es : List (Int × Value)} {m : Int} (h : NxI V es [] m) (h0 : ∀ k ∈ zAg V, 0 ≤ k) : m = V.top := by
  have h1 : ∀ k ∈ zAg V, k + 1 ≤ m := fun k hk => h.ge k hk rfl
  rcases Vw.top_in V h0 with ⟨h2, h3⟩ | ⟨k, hk, h2⟩
  · rcases h.has with h4 | ⟨k, hk, _⟩
    · omega
    · subst h3; simp [zAg] at hk
  · have := h1 k hk
    rcases h.has with h4 | ⟨j, hj, h4⟩
    · have := h0 k hk; omega
    · have := Vw.top_ge hj; omega
end Go.Proofs.YtdkgdjnbpjjfmaaGreatDoor
namespace Go.Proofs.YtdkgdjnbpjjfmaaGreatDoor
set_option linter.all false
open Go.RowKit
attribute [local irreducible] zAo
variable {g w : World} {L M : List HP} {ad : Nat → Addr}

theorem wrapB (s : Nat) : IntKind.u8.wrap (s : Int) = (((UInt8.ofNat s).toNat : Nat) : Int) := by
  have h8 : (2 : Int) ^ 8 = 256 := by decide
  simp only [IntKind.wrap, IntKind.bits, IntKind.signed, h8, Bool.false_and, Bool.false_eq_true, if_false]
  rw [UInt8.toNat_ofNat']
  omega
/-! ### numbers as bytes -/
def vputF : Nat → Nat → List UInt8
  | 0, _ => []
  | f + 1, n => if n < 128 then [UInt8.ofNat n] else UInt8.ofNat (n % 128 + 128) :: vputF f (n / 128)
def zAz (n : Nat) : List UInt8 := vputF 10 n
theorem vputF_len : ∀ f n, (vputF f n).length ≤ f
  | 0, _ => Nat.le_refl _
  | f + 1, n => by
    unfold vputF
    split
    · simp
    · simp [vputF_len f (n / 128)]
theorem low7 {m : Int} (h0 : 0 ≤ m) (h : m < 256) : bits .or .u8 m 128 = m % 128 + 128 := by
  have : ∀ m : Nat, m < 256 → bits .or .u8 (m : Int) 128 = (m : Int) % 128 + 128 := by decide +kernel
  have h1 := this m.toNat (by omega)
  rwa [Int.toNat_of_nonneg h0] at h1
theorem low7n (n : Nat) : bits .or .u8 (((UInt8.ofNat n).toNat : Nat) : Int) 128 = (((UInt8.ofNat (n % 128 + 128)).toNat : Nat) : Int) := by
  have h1 := (UInt8.ofNat n).toNat_lt
  rw [low7 (by omega) (by omega), UInt8.toNat_ofNat', UInt8.toNat_ofNat']
  omega
theorem zDk (hs : Mem g w L) {a : Option Addr} {m c : Nat} {lb : List UInt8} {n : Nat} (hr : Rd g L (.slice a m c) (zAl lb)) (hm : m = lb.length) (hlen : lb.length ≤ 1000000) (hn : n < 18446744073709551616) : Calls Tryz.prog 52 #[.slice a m c, .int .u64 n] w (Ret fun v w' => ∃ a' c', v = .slice a' (lb ++ zAz n).length c' ∧ Mem g w' (own (.slice a' (lb ++ zAz n).length c') (zAl (lb ++ zAz n)) :: L)) := by
  subst hm
  refine zAm Tryz.func52 rfl rfl ?_
  skip
  refine zA5 (zA1 ?_)
  refine zA rfl (zA2 (v := .slice _ _ _) rfl) ?_
  refine zA4 (zA5 (zA1 ?_))
  refine zA rfl (zA0 (v := .slice _ _ _) rfl) ?_
  refine zAa rfl en46 (zFe hs (l := lb) hr (by omega)) ?_
  clear hs
  rintro _ w ⟨a7, c7, rfl, hs⟩
  rw [zAr] at hs ⊢
  refine zA rfl (zA2 (v := .slice _ _ _) rfl) ?_
  refine zA4 ?_
  refine zA5 ?_
  refine zAt ?_
  refine zBr (X := Nat × Nat × List UInt8 × Option Addr × Nat) [1, 5, 8, 9, 10, 11, 12, 13, 14, 15, 16, 17] (fun x => [(5, .slice x.2.2.2.1 x.2.2.1.length x.2.2.2.2), (1, .int .u64 (x.2.1 : Nat))]) (fun x w => 1 ≤ x.1 ∧ x.2.1 < 2 ^ (7 * x.1) ∧ x.2.1 < 18446744073709551616 ∧ x.2.2.1 ++ vputF x.1 x.2.1 = lb ++ zAz n ∧ Mem g w (own (.slice x.2.2.2.1 x.2.2.1.length x.2.2.2.2) (zAl x.2.2.1) :: L)) (fun x => x.1) ((10, n, lb, a7, c7)) ?_ ?_ ?_
  · exact ⟨rfl, rfl, trivial⟩
  · exact ⟨show 1 ≤ 10 by decide, by show n < 2 ^ 70; omega, hn, rfl, hs⟩
  clear hs
  rintro x ξ w hI
  obtain ⟨f, q, out, oa, oc⟩ := x
  obtain ⟨hf, hq, hq2, heq, hs⟩ := hI
  simp only at hf hq hq2 heq hs
  have hol : out.length ≤ 1000020 := by have h1 := congrArg List.length heq; have h2 := vputF_len 10 n; simp only [List.length_append, zAz] at h1; omega
  show cw _ _ _ _ _ _ (updL (mix _ ξ _) [(5, .slice oa out.length oc), (1, .int .u64 (q : Nat))]) w
  refine zA5 ?_
  refine zA5 (zA1 ?_)
  refine zA rfl (zA0 (v := .int .u64 _) rfl) ?_
  refine zA rfl (zD1 rfl rfl) ?_
  refine zA4 ?_
  refine zB7 rfl ?_ ?_
  ·
   intro h9
   have g9 := of_decide_eq_true h9
   obtain ⟨f, rfl⟩ : ∃ f', f = f' + 1 := ⟨f - 1, by omega⟩
   have h2 : 2 ^ (7 * (f + 1)) = 128 * 2 ^ (7 * f) := by rw [Nat.mul_add, Nat.pow_add]; omega
   have hq3 : q / 128 < 2 ^ (7 * f) := by rw [h2] at hq; exact Nat.div_lt_of_lt_mul hq
   have hf1 : 1 ≤ f := by rcases Nat.eq_zero_or_pos f with h | h; rw [h] at hq3; simp at hq3; omega; exact h
   have hst : vputF (f + 1) q = UInt8.ofNat (q % 128 + 128) :: vputF f (q / 128) := by conv => lhs; unfold vputF; rw [if_neg (by omega)]
   refine zAd ?_
   refine zA5 ?_
   refine zAt ?_
   refine zA1 ?_
   refine zA rfl (zA0 (v := .slice _ _ _) rfl) ?_
   refine zA rfl (zA0 (v := .int .u64 _) rfl) ?_
   refine zA rfl (zAn zBw uz5 rfl (c := (((UInt8.ofNat q).toNat : Nat) : Int)) (wrapB q)) ?_
   refine zA rfl (zDw (v := .int .u8 (((UInt8.ofNat (q % 128 + 128)).toNat : Nat) : Int)) (by simp) rfl rfl (by rw [← low7n q]; rfl)) ?_
   refine zCb hs rfl ((zAl [UInt8.ofNat (q % 128 + 128)])) zC2 zs5 rfl (zE1 (zBn _)) rfl rfl rfl ?_
   clear hs
   intro b16 w hs
   try simp only [List.set_cons_succ, List.set_cons_zero] at hs
   refine zCf hs rfl 1 rfl zC2 in5 rfl rfl rfl (zC5 (P := Tryz.prog) zC2 ((Rd.cells (n := 1) (cs := zAl [UInt8.ofNat (q % 128 + 128)]) 0 rfl rfl).seq hs) (zBn _)) (by simp only [zAr, List.length_cons, List.length_nil]; omega) (by simp only [zAr, List.length_cons, List.length_nil]; omega) ?_
   clear hs
   intro a17 c17 w hs
   simp only [List.set_cons_succ, List.set_cons_zero] at hs
   refine zA rfl (zA2 (v := .slice _ _ _) rfl) ?_
   refine zA4 ?_
   refine zA1 ?_
   refine zA rfl (zA0 (v := .int .u64 _) rfl) ?_
   refine zA rfl (run_shr rfl rfl (n := 7) (c := ((q / 128 : Nat) : Int)) rfl (by decide) (by omega)) ?_
   refine zA rfl (zA2 (v := .int .u64 _) rfl) ?_
   refine zA4 ?_
   have e1 : zAl out ++ zAl [UInt8.ofNat (q % 128 + 128)] = zAl (out ++ [UInt8.ofNat (q % 128 + 128)]) := (zC8 _ _).symm
   have e2 : (zAl out).length + (zAl [UInt8.ofNat (q % 128 + 128)]).length = (out ++ [UInt8.ofNat (q % 128 + 128)]).length := by simp [zAr]
   rw [e1, e2] at hs
   exact ⟨(f, q / 128, out ++ [UInt8.ofNat (q % 128 + 128)], a17, c17), by simp only; omega, ⟨hf1, hq3, by show q / 128 < _; omega, by rw [← heq, hst]; simp, hs.tail⟩, ⟨show Value.slice a17 ((zAl out).length + (zAl [UInt8.ofNat (q % 128 + 128)]).length) c17 = Value.slice a17 (out ++ [UInt8.ofNat (q % 128 + 128)]).length c17 from by rw [e2], rfl, trivial⟩, by repeat (first | exact Out.mix _ _ _ | refine Out.updo rfl ?_ | refine Out.upd rfl ?_ | refine Out.mixIn rfl ?_)⟩
  ·
   intro h9
   have g9 := of_decide_eq_false h9
   obtain ⟨f, rfl⟩ : ∃ f', f = f' + 1 := ⟨f - 1, by omega⟩
   have hst : vputF (f + 1) q = [UInt8.ofNat q] := by unfold vputF; rw [if_pos (by omega)]
   rw [hst] at heq
   refine zBk rfl ?_
   refine zA5 (zA1 ?_)
   refine zA rfl (zA0 (v := .slice _ _ _) rfl) ?_
   refine zA rfl (zA0 (v := .int .u64 _) rfl) ?_
   refine zA rfl (zAn zBw uz5 rfl (c := (((UInt8.ofNat q).toNat : Nat) : Int)) (wrapB q)) ?_
   refine zCb hs rfl ((zAl [UInt8.ofNat q])) zC2 zs5 rfl (zE1 (zBn _)) rfl rfl rfl ?_
   clear hs
   intro b21 w hs
   try simp only [List.set_cons_succ, List.set_cons_zero] at hs
   refine zCf hs rfl 1 rfl zC2 in5 rfl rfl rfl (zC5 (P := Tryz.prog) zC2 ((Rd.cells (n := 1) (cs := zAl [UInt8.ofNat q]) 0 rfl rfl).seq hs) (zBn _)) (by simp only [zAr, List.length_cons, List.length_nil]; omega) (by simp only [zAr, List.length_cons, List.length_nil]; omega) ?_
   clear hs
   intro a22 c22 w hs
   simp only [List.set_cons_succ, List.set_cons_zero] at hs
   refine zA rfl (zA2 (v := .slice _ _ _) rfl) ?_
   refine zA4 ?_
   refine zAf ?_
   refine zBg (v := .slice _ _ _) rfl rfl ?_
   have e1 : zAl out ++ zAl [UInt8.ofNat q] = zAl (lb ++ zAz n) := by rw [← zC8, heq]
   have e2 : (zAl out).length + (zAl [UInt8.ofNat q]).length = (lb ++ zAz n).length := by rw [← heq]; simp [zAr]
   rw [e1, e2] at hs
   exact ⟨_, rfl, a22, c22, by rw [e2], hs.tail⟩
theorem putint_sl (hs : Mem g w L) {a : Option Addr} {m c : Nat} {lb : List UInt8} {n : Int} {u v q x : Int} {z : Nat} (hr : Rd g L (.slice a m c) (zAl lb)) (hm : m = lb.length) (hlen : lb.length ≤ 1000000)
    (h1 : IntKind.u64.wrap n = u) (h2 : IntKind.u64.wrap (u * 2 ^ 1) = v) (h3 : n / 2 ^ 63 = q) (h4 : IntKind.u64.wrap q = x) (h5 : bits .xor .u64 v x = (z : Int)) (hz : z < 18446744073709551616) :
    Calls Tryz.prog 121 #[.slice a m c, .int .i64 n] w (Ret fun v w' => ∃ a' c', v = .slice a' (lb ++ zAz z).length c' ∧ Mem g w' (own (.slice a' (lb ++ zAz z).length c') (zAl (lb ++ zAz z)) :: L)) := by
  refine zAm Tryz.func121 rfl rfl ?_
  skip
  refine zA5 (zA1 ?_)
  refine zA rfl (zA2 (v := .slice _ _ _) rfl) ?_
  refine zA4 (zA5 (zA1 ?_))
  refine zA rfl (zA0 (v := .slice _ _ _) rfl) ?_
  refine zA rfl (zA0 (v := .int .i64 _) rfl) ?_
  refine zA rfl (zAn uz2 zBw rfl h1) ?_
  refine zA rfl (run_shl rfl rfl (n := 1) rfl (by decide) h2) ?_
  refine zA rfl (zA0 (v := .int .i64 _) rfl) ?_
  refine zA rfl (run_shr rfl rfl (n := 63) rfl (by decide) h3) ?_
  refine zA rfl (zAn uz2 zBw rfl h4) ?_
  refine zA rfl (zDw (v := .int .u64 (z : Nat)) (by simp) rfl rfl (by rw [← h5]; rfl)) ?_
  refine zAa rfl en52 (zDk hs hr hm hlen hz) ?_
  clear hs
  rintro _ w ⟨a13, c13, rfl, hs⟩
  refine zA rfl (zA2 (v := .slice _ _ _) rfl) ?_
  refine zA4 ?_
  refine zAf ?_
  refine zBg (v := .slice _ _ _) rfl rfl ?_
  exact ⟨_, rfl, a13, c13, rfl, hs⟩
end Go.Proofs.YtdkgdjnbpjjfmaaGreatDoor
namespace Go.Proofs.YtdkgdjnbpjjfmaaGreatDoor
set_option linter.all false
open Go.RowKit

theorem u64_nat (a : Nat) (ha : a < 18446744073709551616) : (BitVec.ofInt 64 (a : Int)).toNat = a := by
  rw [BitVec.ofInt_natCast, BitVec.toNat_ofNat]; exact Nat.mod_eq_of_lt (by omega)
theorem zB5 (n : Int) : IntKind.u64.wrap n = n % 18446744073709551616 := by simp [IntKind.wrap, IntKind.bits, IntKind.signed]
/-- A number without a sign, out of one with. -/
def zig (z : Int) : Nat := if 0 ≤ z then (2 * z).toNat else (-2 * z - 1).toNat
theorem zig_lt {z : Int} (h : zDs z) : zig z < 18446744073709551616 := by
  obtain ⟨h1, h2⟩ := h
  unfold zig
  split <;> omega
/-! ### how a sign is turned -/
theorem xor_u64 (a b : Nat) (ha : a < 18446744073709551616) (hb : b < 18446744073709551616) : bits .xor .u64 (a : Int) (b : Int) = ((a ^^^ b : Nat) : Int) := by
  have hx : a ^^^ b < 2 ^ 64 := Nat.xor_lt_two_pow (by omega) (by omega)
  show IntKind.u64.wrap ((BitVec.ofInt 64 (a : Int) ^^^ BitVec.ofInt 64 (b : Int)).toNat : Int) = _
  rw [BitVec.toNat_xor, u64_nat a ha, u64_nat b hb, zB5]
  omega
theorem xor_max (a : Nat) (ha : a < 18446744073709551616) : a ^^^ 18446744073709551615 = 18446744073709551615 - a := by
  have h1 : (BitVec.ofNat 64 a ^^^ BitVec.allOnes 64).toNat = 18446744073709551615 - a := by
    rw [BitVec.xor_allOnes, BitVec.toNat_not, BitVec.toNat_ofNat, Nat.mod_eq_of_lt (by omega)]
  rw [BitVec.toNat_xor, BitVec.toNat_ofNat, Nat.mod_eq_of_lt (by omega)] at h1
  exact h1
theorem zig_bits {z : Int} (h : zDs z) : bits .xor .u64 (IntKind.u64.wrap (IntKind.u64.wrap z * 2 ^ 1)) (IntKind.u64.wrap (z / 2 ^ 63)) = (zig z : Int) := by
  obtain ⟨h1, h2⟩ := h
  have h63 : (2 : Int) ^ 63 = 9223372036854775808 := by decide
  have h21 : (2 : Int) ^ 1 = 2 := by decide
  rw [zB5, zB5, zB5, h63, h21]
  rcases Int.lt_or_le z 0 with hz | hz
  · have e1 : z % 18446744073709551616 * 2 % 18446744073709551616 = (((18446744073709551616 + 2 * z).toNat : Nat) : Int) := by omega
    have e2 : z / 9223372036854775808 % 18446744073709551616 = ((18446744073709551615 : Nat) : Int) := by omega
    rw [e1, e2, xor_u64 _ _ (by omega) (by decide), xor_max _ (by omega)]
    unfold zig
    rw [if_neg (by omega)]
    omega
  · have e1 : z % 18446744073709551616 * 2 % 18446744073709551616 = (((2 * z).toNat : Nat) : Int) := by omega
    have e2 : z / 9223372036854775808 % 18446744073709551616 = ((0 : Nat) : Int) := by omega
    rw [e1, e2, xor_u64 _ _ (by omega) (by decide), Nat.xor_zero]
    unfold zig
    rw [if_pos hz]
end Go.Proofs.YtdkgdjnbpjjfmaaGreatDoor
namespace Go.Proofs.YtdkgdjnbpjjfmaaGreatDoor
set_option linter.all false
open Go.RowKit
attribute [local irreducible] zAo
variable {g w : World} {L M : List HP} {ad : Nat → Addr}

theorem Came.cap {a : Option Addr} {n c : Nat} {l : List Value} (h : Came g (.slice a n c) l) : n ≤ c := by
  obtain ⟨⟨a', n', c', hv, hn, hc, _⟩, _⟩ := h
  simp only [Value.slice.injEq] at hv
  obtain ⟨_, rfl, rfl⟩ := hv
  exact hc
/-- Bytes as a text. -/
theorem zC6 {P : Program} {ρ : Env} {dst : Option Tmp} {ty : TypeId} {pos : String} {aft : Array Edge} {x : Operand} {ts e td : TypeId} {b off n c : Nat} {l : List UInt8} (hs : P.underlying ts = some (.slice e)) (he : P.underlying e = some (.int .u8)) (hd : P.underlying td = some .string) (hx : ev ρ x = .slice (some ⟨b, off, none⟩) n c) (hn : n = l.length) (hc : ∀ (j : Nat) (v : Value), (zAl l)[j]? = some v → w.cell? ⟨b, off + j, none⟩ = some v) :
    (execOp (ev ρ) ⟨dst, .convert ts td x, ty, pos, aft, none⟩).run P w = .ok (.value (.string ⟨l.toArray⟩)) w := by
  subst hn
  have h := run_convert_bytes_back (P := P) w ts td e ⟨b, off, none⟩ c l hs he hd (fun j hj => by rw [Addr.add_lit]; exact hc j _ (zEj (List.getElem?_eq_getElem hj)))
  simp only [execOp, hx, Sem.run_bind, h, Result.andThen_ok, Sem.run_pure]
end Go.Proofs.YtdkgdjnbpjjfmaaGreatDoor
