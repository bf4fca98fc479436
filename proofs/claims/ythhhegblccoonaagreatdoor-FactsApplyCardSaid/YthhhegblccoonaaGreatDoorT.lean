import Derived.KernelRfl
import Derived.Test.YthhhegblccoonaaGreatDoorProg
import Derived.Test.YthhhegblccoonaaGreatDoorV0
/- The table of types for the evaluator (made by mkT.py out of Lean's own print of the types). -/
namespace Go.Proofs.YthhhegblccoonaaGreatDoor
open Go.Vm

def tys : Types := fun t => match t with
  | 2 => some ⟨.int .i64, 1, 8, [.sc (.int .i64 0)]⟩
  | 3 => some ⟨.int .i64, 1, 8, [.sc (.int .i64 0)]⟩
  | 4 => some ⟨.bool, 1, 1, [.sc (.bool false)]⟩
  | 5 => some ⟨.int .u8, 1, 1, [.sc (.int .u8 0)]⟩
  | 6 => some ⟨.int .u8, 1, 1, [.sc (.int .u8 0)]⟩
  | 7 => some ⟨.struct [(0, 2), (1, 3), (2, 4), (3, 6)] true, 4, 24, [.sc (.int .i64 0), .sc (.int .i64 0), .sc (.bool false), .sc (.int .u8 0)]⟩
  | 8 => some ⟨.struct [(0, 2), (1, 3), (2, 4), (3, 6)] true, 4, 24, [.sc (.int .i64 0), .sc (.int .i64 0), .sc (.bool false), .sc (.int .u8 0)]⟩
  | 9 => some ⟨.string, 1, 16, [.sc (.string ByteArray.empty)]⟩
  | 10 => some ⟨.string, 1, 16, [.sc (.string ByteArray.empty)]⟩
  | 11 => some ⟨.string, 1, 16, [.sc (.string ByteArray.empty)]⟩
  | 12 => some ⟨.int .u64, 1, 8, [.sc (.int .u64 0)]⟩
  | 15 => some ⟨.other, 1, 8, [.sc (.pointer none)]⟩
  | 16 => some ⟨.other, 1, 8, [.sc (.pointer none)]⟩
  | 17 => some ⟨.other, 1, 8, [.sc (.pointer none)]⟩
  | 18 => some ⟨.struct [(0, 17)] false, 1, 8, [.sc (.pointer none)]⟩
  | 19 => some ⟨.struct [(0, 17)] false, 1, 8, [.sc (.pointer none)]⟩
  | 20 => some ⟨.other, 1, 16, [.sc (.nilIface)]⟩
  | 21 => some ⟨.int .i32, 1, 4, [.sc (.int .i32 0)]⟩
  | 22 => some ⟨.slice 3, 1, 24, [.sl true []]⟩
  | 23 => some ⟨.slice 30, 1, 24, [.sl true []]⟩
  | 24 => some ⟨.int .u64, 1, 8, [.sc (.int .u64 0)]⟩
  | 25 => some ⟨.struct [(0, 3), (1, 3), (2, 22), (3, 23), (4, 24)] false, 5, 72, [.sc (.int .i64 0), .sc (.int .i64 0), .sl true [], .sl true [], .sc (.int .u64 0)]⟩
  | 26 => some ⟨.struct [(0, 3), (1, 3), (2, 22), (3, 23), (4, 24)] false, 5, 72, [.sc (.int .i64 0), .sc (.int .i64 0), .sl true [], .sl true [], .sc (.int .u64 0)]⟩
  | 29 => some ⟨.struct [(0, 24), (1, 24), (2, 24), (3, 24), (4, 2), (5, 2)] true, 6, 48, [.sc (.int .u64 0), .sc (.int .u64 0), .sc (.int .u64 0), .sc (.int .u64 0), .sc (.int .i64 0), .sc (.int .i64 0)]⟩
  | 30 => some ⟨.struct [(0, 24), (1, 24), (2, 24), (3, 24), (4, 2), (5, 2)] true, 6, 48, [.sc (.int .u64 0), .sc (.int .u64 0), .sc (.int .u64 0), .sc (.int .u64 0), .sc (.int .i64 0), .sc (.int .i64 0)]⟩
  | 32 => some ⟨.array 3 24, 3, 24, [.sc (.int .u64 0), .sc (.int .u64 0), .sc (.int .u64 0)]⟩
  | 38 => some ⟨.slice 24, 1, 24, [.sl true []]⟩
  | 42 => some ⟨.slice 45, 1, 24, [.sl true []]⟩
  | 43 => some ⟨.slice 48, 1, 24, [.sl true []]⟩
  | 44 => some ⟨.struct [(0, 24), (1, 24)] true, 2, 16, [.sc (.int .u64 0), .sc (.int .u64 0)]⟩
  | 45 => some ⟨.struct [(0, 24), (1, 24)] true, 2, 16, [.sc (.int .u64 0), .sc (.int .u64 0)]⟩
  | 47 => some ⟨.struct [(0, 24), (1, 24), (2, 2), (3, 2)] true, 4, 32, [.sc (.int .u64 0), .sc (.int .u64 0), .sc (.int .i64 0), .sc (.int .i64 0)]⟩
  | 48 => some ⟨.struct [(0, 24), (1, 24), (2, 2), (3, 2)] true, 4, 32, [.sc (.int .u64 0), .sc (.int .u64 0), .sc (.int .i64 0), .sc (.int .i64 0)]⟩
  | 85 => some ⟨.other, 1, 8, [.sc (.pointer none)]⟩
  | 86 => some ⟨.struct [(0, 3), (1, 24), (2, 2), (3, 2), (4, 48)] true, 8, 64, [.sc (.int .i64 0), .sc (.int .u64 0), .sc (.int .i64 0), .sc (.int .i64 0), .sc (.int .u64 0), .sc (.int .u64 0), .sc (.int .i64 0), .sc (.int .i64 0)]⟩
  | 87 => some ⟨.struct [(0, 3), (1, 24), (2, 2), (3, 2), (4, 48)] true, 8, 64, [.sc (.int .i64 0), .sc (.int .u64 0), .sc (.int .i64 0), .sc (.int .i64 0), .sc (.int .u64 0), .sc (.int .u64 0), .sc (.int .i64 0), .sc (.int .i64 0)]⟩
  | 107 => some ⟨.int .u64, 1, 8, [.sc (.int .u64 0)]⟩
  | 113 => some ⟨.int .i64, 1, 8, [.sc (.int .i64 0)]⟩
  | 131 => some ⟨.array 64 5, 64, 64, [.sc (.int .u8 0), .sc (.int .u8 0), .sc (.int .u8 0), .sc (.int .u8 0), .sc (.int .u8 0), .sc (.int .u8 0), .sc (.int .u8 0), .sc (.int .u8 0), .sc (.int .u8 0), .sc (.int .u8 0), .sc (.int .u8 0), .sc (.int .u8 0), .sc (.int .u8 0), .sc (.int .u8 0), .sc (.int .u8 0), .sc (.int .u8 0), .sc (.int .u8 0), .sc (.int .u8 0), .sc (.int .u8 0), .sc (.int .u8 0), .sc (.int .u8 0), .sc (.int .u8 0), .sc (.int .u8 0), .sc (.int .u8 0), .sc (.int .u8 0), .sc (.int .u8 0), .sc (.int .u8 0), .sc (.int .u8 0), .sc (.int .u8 0), .sc (.int .u8 0), .sc (.int .u8 0), .sc (.int .u8 0), .sc (.int .u8 0), .sc (.int .u8 0), .sc (.int .u8 0), .sc (.int .u8 0), .sc (.int .u8 0), .sc (.int .u8 0), .sc (.int .u8 0), .sc (.int .u8 0), .sc (.int .u8 0), .sc (.int .u8 0), .sc (.int .u8 0), .sc (.int .u8 0), .sc (.int .u8 0), .sc (.int .u8 0), .sc (.int .u8 0), .sc (.int .u8 0), .sc (.int .u8 0), .sc (.int .u8 0), .sc (.int .u8 0), .sc (.int .u8 0), .sc (.int .u8 0), .sc (.int .u8 0), .sc (.int .u8 0), .sc (.int .u8 0), .sc (.int .u8 0), .sc (.int .u8 0), .sc (.int .u8 0), .sc (.int .u8 0), .sc (.int .u8 0), .sc (.int .u8 0), .sc (.int .u8 0), .sc (.int .u8 0)]⟩
  | 140 => some ⟨.slice 2, 1, 24, [.sl true []]⟩
  | 148 => some ⟨.int .u32, 1, 4, [.sc (.int .u32 0)]⟩
  | 149 => some ⟨.int .u8, 1, 1, [.sc (.int .u8 0)]⟩
  | 150 => some ⟨.int .u8, 1, 1, [.sc (.int .u8 0)]⟩
  | 152 => some ⟨.other, 1, 8, [.sc (.pointer none)]⟩
  | 153 => some ⟨.int .i32, 1, 4, [.sc (.int .i32 0)]⟩
  | 154 => some ⟨.int .i32, 1, 4, [.sc (.int .i32 0)]⟩
  | 155 => some ⟨.struct [(0, 12), (1, 12), (2, 148), (3, 149), (4, 5), (5, 5), (6, 150), (7, 151), (8, 152), (9, 153), (10, 154)] false, 11, 48, [.sc (.int .u64 0), .sc (.int .u64 0), .sc (.int .u32 0), .sc (.int .u8 0), .sc (.int .u8 0), .sc (.int .u8 0), .sc (.int .u8 0), .sc (.nilFunc), .sc (.pointer none), .sc (.int .i32 0), .sc (.int .i32 0)]⟩
  | 156 => some ⟨.struct [(0, 12), (1, 12), (2, 148), (3, 149), (4, 5), (5, 5), (6, 150), (7, 151), (8, 152), (9, 153), (10, 154)] false, 11, 48, [.sc (.int .u64 0), .sc (.int .u64 0), .sc (.int .u32 0), .sc (.int .u8 0), .sc (.int .u8 0), .sc (.int .u8 0), .sc (.int .u8 0), .sc (.nilFunc), .sc (.pointer none), .sc (.int .i32 0), .sc (.int .i32 0)]⟩
  | _ => none

/-- The package's variables that the proofs know. -/
instance globs : Globs := ⟨fun g => match g with | 0 => some [.sc (.int .u8 0), .sc (.int .u8 1), .sc (.int .u8 56), .sc (.int .u8 2), .sc (.int .u8 57), .sc (.int .u8 49), .sc (.int .u8 28), .sc (.int .u8 3), .sc (.int .u8 61), .sc (.int .u8 58), .sc (.int .u8 42), .sc (.int .u8 50), .sc (.int .u8 38), .sc (.int .u8 29), .sc (.int .u8 17), .sc (.int .u8 4), .sc (.int .u8 62), .sc (.int .u8 47), .sc (.int .u8 59), .sc (.int .u8 36), .sc (.int .u8 45), .sc (.int .u8 43), .sc (.int .u8 51), .sc (.int .u8 22), .sc (.int .u8 53), .sc (.int .u8 39), .sc (.int .u8 33), .sc (.int .u8 30), .sc (.int .u8 24), .sc (.int .u8 18), .sc (.int .u8 12), .sc (.int .u8 5), .sc (.int .u8 63), .sc (.int .u8 55), .sc (.int .u8 48), .sc (.int .u8 27), .sc (.int .u8 60), .sc (.int .u8 41), .sc (.int .u8 37), .sc (.int .u8 16), .sc (.int .u8 46), .sc (.int .u8 35), .sc (.int .u8 44), .sc (.int .u8 21), .sc (.int .u8 52), .sc (.int .u8 32), .sc (.int .u8 23), .sc (.int .u8 11), .sc (.int .u8 54), .sc (.int .u8 26), .sc (.int .u8 40), .sc (.int .u8 15), .sc (.int .u8 34), .sc (.int .u8 20), .sc (.int .u8 31), .sc (.int .u8 10), .sc (.int .u8 25), .sc (.int .u8 14), .sc (.int .u8 19), .sc (.int .u8 9), .sc (.int .u8 13), .sc (.int .u8 8), .sc (.int .u8 7), .sc (.int .u8 6)] | _ => none⟩
end Go.Proofs.YthhhegblccoonaaGreatDoor
/- The table of types says what the program's own table says. -/
namespace Go.Vm
open Go.Proofs Go.Proofs.YthhhegblccoonaaGreatDoor
set_option linter.unusedSimpArgs false
theorem TI.of {P : Program} {t : TypeId} {i : TI} (h1 : (P.info? t).map (fun j => (j.size, j.bytes)) = some (i.size, i.bytes)) (h2 : ((P.info? t).bind (·.zero)).map (fun z => ((ofConst z).cells, z.cells.toList.all Value.oneCell')) = some (i.zero, true))
    (h3 : (i.zero.length == i.size && decide (0 < i.size)) = true) (h4 : i.kd.ok P t) : TI.ok P t i := by
  obtain ⟨j, hj, h1⟩ := Option.map_eq_some_iff.mp h1
  rw [hj] at h2
  obtain ⟨z, hz, h2⟩ := Option.map_eq_some_iff.mp h2
  simp only [Option.bind_some] at hz
  simp only [Prod.mk.injEq] at h1 h2
  simp only [Bool.and_eq_true, beq_iff_eq, decide_eq_true_eq] at h3
  exact ⟨j, z, hj, h1.1, h1.2, hz, h2.1, h2.2, h3.1, h3.2, h4⟩
theorem ti2 : TI.ok Tryz.prog 2 ⟨.int .i64, 1, 8, [.sc (.int .i64 0)]⟩ := TI.of (by kernel_rfl) (by kernel_rfl) (by kernel_rfl) (by exact Tryz.underlying2)
theorem ti3 : TI.ok Tryz.prog 3 ⟨.int .i64, 1, 8, [.sc (.int .i64 0)]⟩ := TI.of (by kernel_rfl) (by kernel_rfl) (by kernel_rfl) (by exact Tryz.underlying3)
theorem ti4 : TI.ok Tryz.prog 4 ⟨.bool, 1, 1, [.sc (.bool false)]⟩ := TI.of (by kernel_rfl) (by kernel_rfl) (by kernel_rfl) (by exact Tryz.underlying4)
theorem ti5 : TI.ok Tryz.prog 5 ⟨.int .u8, 1, 1, [.sc (.int .u8 0)]⟩ := TI.of (by kernel_rfl) (by kernel_rfl) (by kernel_rfl) (by exact Tryz.underlying5)
theorem ti6 : TI.ok Tryz.prog 6 ⟨.int .u8, 1, 1, [.sc (.int .u8 0)]⟩ := TI.of (by kernel_rfl) (by kernel_rfl) (by kernel_rfl) (by exact Tryz.underlying6)
theorem ti7 : TI.ok Tryz.prog 7 ⟨.struct [(0, 2), (1, 3), (2, 4), (3, 6)] true, 4, 24, [.sc (.int .i64 0), .sc (.int .i64 0), .sc (.bool false), .sc (.int .u8 0)]⟩ := TI.of (by kernel_rfl) (by kernel_rfl) (by kernel_rfl) ⟨_, Tryz.underlying7, by kernel_rfl, by kernel_rfl, fun h => ⟨by kernel_rfl, by kernel_rfl, by kernel_rfl⟩⟩
theorem ti8 : TI.ok Tryz.prog 8 ⟨.struct [(0, 2), (1, 3), (2, 4), (3, 6)] true, 4, 24, [.sc (.int .i64 0), .sc (.int .i64 0), .sc (.bool false), .sc (.int .u8 0)]⟩ := TI.of (by kernel_rfl) (by kernel_rfl) (by kernel_rfl) ⟨_, Tryz.underlying8, by kernel_rfl, by kernel_rfl, fun h => ⟨by kernel_rfl, by kernel_rfl, by kernel_rfl⟩⟩
theorem ti9 : TI.ok Tryz.prog 9 ⟨.string, 1, 16, [.sc (.string ByteArray.empty)]⟩ := TI.of (by kernel_rfl) (by kernel_rfl) (by kernel_rfl) (by exact Tryz.underlying9)
theorem ti10 : TI.ok Tryz.prog 10 ⟨.string, 1, 16, [.sc (.string ByteArray.empty)]⟩ := TI.of (by kernel_rfl) (by kernel_rfl) (by kernel_rfl) (by exact Tryz.underlying10)
theorem ti11 : TI.ok Tryz.prog 11 ⟨.string, 1, 16, [.sc (.string ByteArray.empty)]⟩ := TI.of (by kernel_rfl) (by kernel_rfl) (by kernel_rfl) (by exact Tryz.underlying11)
theorem ti12 : TI.ok Tryz.prog 12 ⟨.int .u64, 1, 8, [.sc (.int .u64 0)]⟩ := TI.of (by kernel_rfl) (by kernel_rfl) (by kernel_rfl) (by exact Tryz.underlying12)
theorem ti15 : TI.ok Tryz.prog 15 ⟨.other, 1, 8, [.sc (.pointer none)]⟩ := TI.of (by kernel_rfl) (by kernel_rfl) (by kernel_rfl) ⟨_, Tryz.underlying15, fun _ h => (nomatch h), fun _ _ h => (nomatch h)⟩
theorem ti16 : TI.ok Tryz.prog 16 ⟨.other, 1, 8, [.sc (.pointer none)]⟩ := TI.of (by kernel_rfl) (by kernel_rfl) (by kernel_rfl) ⟨_, Tryz.underlying16, fun _ h => (nomatch h), fun _ _ h => (nomatch h)⟩
theorem ti17 : TI.ok Tryz.prog 17 ⟨.other, 1, 8, [.sc (.pointer none)]⟩ := TI.of (by kernel_rfl) (by kernel_rfl) (by kernel_rfl) ⟨_, Tryz.underlying17, fun _ h => (nomatch h), fun _ _ h => (nomatch h)⟩
theorem ti18 : TI.ok Tryz.prog 18 ⟨.struct [(0, 17)] false, 1, 8, [.sc (.pointer none)]⟩ := TI.of (by kernel_rfl) (by kernel_rfl) (by kernel_rfl) ⟨_, Tryz.underlying18, by kernel_rfl, by kernel_rfl, fun h => (nomatch h)⟩
theorem ti19 : TI.ok Tryz.prog 19 ⟨.struct [(0, 17)] false, 1, 8, [.sc (.pointer none)]⟩ := TI.of (by kernel_rfl) (by kernel_rfl) (by kernel_rfl) ⟨_, Tryz.underlying19, by kernel_rfl, by kernel_rfl, fun h => (nomatch h)⟩
theorem ti20 : TI.ok Tryz.prog 20 ⟨.other, 1, 16, [.sc (.nilIface)]⟩ := TI.of (by kernel_rfl) (by kernel_rfl) (by kernel_rfl) ⟨_, Tryz.underlying20, fun _ h => (nomatch h), fun _ _ h => (nomatch h)⟩
theorem ti21 : TI.ok Tryz.prog 21 ⟨.int .i32, 1, 4, [.sc (.int .i32 0)]⟩ := TI.of (by kernel_rfl) (by kernel_rfl) (by kernel_rfl) (by exact Tryz.underlying21)
theorem ti22 : TI.ok Tryz.prog 22 ⟨.slice 3, 1, 24, [.sl true []]⟩ := TI.of (by kernel_rfl) (by kernel_rfl) (by kernel_rfl) (by exact Tryz.underlying22)
theorem ti23 : TI.ok Tryz.prog 23 ⟨.slice 30, 1, 24, [.sl true []]⟩ := TI.of (by kernel_rfl) (by kernel_rfl) (by kernel_rfl) (by exact Tryz.underlying23)
theorem ti24 : TI.ok Tryz.prog 24 ⟨.int .u64, 1, 8, [.sc (.int .u64 0)]⟩ := TI.of (by kernel_rfl) (by kernel_rfl) (by kernel_rfl) (by exact Tryz.underlying24)
theorem ti25 : TI.ok Tryz.prog 25 ⟨.struct [(0, 3), (1, 3), (2, 22), (3, 23), (4, 24)] false, 5, 72, [.sc (.int .i64 0), .sc (.int .i64 0), .sl true [], .sl true [], .sc (.int .u64 0)]⟩ := TI.of (by kernel_rfl) (by kernel_rfl) (by kernel_rfl) ⟨_, Tryz.underlying25, by kernel_rfl, by kernel_rfl, fun h => (nomatch h)⟩
theorem ti26 : TI.ok Tryz.prog 26 ⟨.struct [(0, 3), (1, 3), (2, 22), (3, 23), (4, 24)] false, 5, 72, [.sc (.int .i64 0), .sc (.int .i64 0), .sl true [], .sl true [], .sc (.int .u64 0)]⟩ := TI.of (by kernel_rfl) (by kernel_rfl) (by kernel_rfl) ⟨_, Tryz.underlying26, by kernel_rfl, by kernel_rfl, fun h => (nomatch h)⟩
theorem ti29 : TI.ok Tryz.prog 29 ⟨.struct [(0, 24), (1, 24), (2, 24), (3, 24), (4, 2), (5, 2)] true, 6, 48, [.sc (.int .u64 0), .sc (.int .u64 0), .sc (.int .u64 0), .sc (.int .u64 0), .sc (.int .i64 0), .sc (.int .i64 0)]⟩ := TI.of (by kernel_rfl) (by kernel_rfl) (by kernel_rfl) ⟨_, Tryz.underlying29, by kernel_rfl, by kernel_rfl, fun h => ⟨by kernel_rfl, by kernel_rfl, by kernel_rfl⟩⟩
theorem ti30 : TI.ok Tryz.prog 30 ⟨.struct [(0, 24), (1, 24), (2, 24), (3, 24), (4, 2), (5, 2)] true, 6, 48, [.sc (.int .u64 0), .sc (.int .u64 0), .sc (.int .u64 0), .sc (.int .u64 0), .sc (.int .i64 0), .sc (.int .i64 0)]⟩ := TI.of (by kernel_rfl) (by kernel_rfl) (by kernel_rfl) ⟨_, Tryz.underlying30, by kernel_rfl, by kernel_rfl, fun h => ⟨by kernel_rfl, by kernel_rfl, by kernel_rfl⟩⟩
theorem ti32 : TI.ok Tryz.prog 32 ⟨.array 3 24, 3, 24, [.sc (.int .u64 0), .sc (.int .u64 0), .sc (.int .u64 0)]⟩ := TI.of (by kernel_rfl) (by kernel_rfl) (by kernel_rfl) (by exact Tryz.underlying32)
theorem ti38 : TI.ok Tryz.prog 38 ⟨.slice 24, 1, 24, [.sl true []]⟩ := TI.of (by kernel_rfl) (by kernel_rfl) (by kernel_rfl) (by exact Tryz.underlying38)
theorem ti42 : TI.ok Tryz.prog 42 ⟨.slice 45, 1, 24, [.sl true []]⟩ := TI.of (by kernel_rfl) (by kernel_rfl) (by kernel_rfl) (by exact Tryz.underlying42)
theorem ti43 : TI.ok Tryz.prog 43 ⟨.slice 48, 1, 24, [.sl true []]⟩ := TI.of (by kernel_rfl) (by kernel_rfl) (by kernel_rfl) (by exact Tryz.underlying43)
theorem ti44 : TI.ok Tryz.prog 44 ⟨.struct [(0, 24), (1, 24)] true, 2, 16, [.sc (.int .u64 0), .sc (.int .u64 0)]⟩ := TI.of (by kernel_rfl) (by kernel_rfl) (by kernel_rfl) ⟨_, Tryz.underlying44, by kernel_rfl, by kernel_rfl, fun h => ⟨by kernel_rfl, by kernel_rfl, by kernel_rfl⟩⟩
theorem ti45 : TI.ok Tryz.prog 45 ⟨.struct [(0, 24), (1, 24)] true, 2, 16, [.sc (.int .u64 0), .sc (.int .u64 0)]⟩ := TI.of (by kernel_rfl) (by kernel_rfl) (by kernel_rfl) ⟨_, Tryz.underlying45, by kernel_rfl, by kernel_rfl, fun h => ⟨by kernel_rfl, by kernel_rfl, by kernel_rfl⟩⟩
theorem ti47 : TI.ok Tryz.prog 47 ⟨.struct [(0, 24), (1, 24), (2, 2), (3, 2)] true, 4, 32, [.sc (.int .u64 0), .sc (.int .u64 0), .sc (.int .i64 0), .sc (.int .i64 0)]⟩ := TI.of (by kernel_rfl) (by kernel_rfl) (by kernel_rfl) ⟨_, Tryz.underlying47, by kernel_rfl, by kernel_rfl, fun h => ⟨by kernel_rfl, by kernel_rfl, by kernel_rfl⟩⟩
theorem ti48 : TI.ok Tryz.prog 48 ⟨.struct [(0, 24), (1, 24), (2, 2), (3, 2)] true, 4, 32, [.sc (.int .u64 0), .sc (.int .u64 0), .sc (.int .i64 0), .sc (.int .i64 0)]⟩ := TI.of (by kernel_rfl) (by kernel_rfl) (by kernel_rfl) ⟨_, Tryz.underlying48, by kernel_rfl, by kernel_rfl, fun h => ⟨by kernel_rfl, by kernel_rfl, by kernel_rfl⟩⟩
theorem ti85 : TI.ok Tryz.prog 85 ⟨.other, 1, 8, [.sc (.pointer none)]⟩ := TI.of (by kernel_rfl) (by kernel_rfl) (by kernel_rfl) ⟨_, Tryz.underlying85, fun _ h => (nomatch h), fun _ _ h => (nomatch h)⟩
theorem ti86 : TI.ok Tryz.prog 86 ⟨.struct [(0, 3), (1, 24), (2, 2), (3, 2), (4, 48)] true, 8, 64, [.sc (.int .i64 0), .sc (.int .u64 0), .sc (.int .i64 0), .sc (.int .i64 0), .sc (.int .u64 0), .sc (.int .u64 0), .sc (.int .i64 0), .sc (.int .i64 0)]⟩ := TI.of (by kernel_rfl) (by kernel_rfl) (by kernel_rfl) ⟨_, Tryz.underlying86, by kernel_rfl, by kernel_rfl, fun h => ⟨by kernel_rfl, by kernel_rfl, by kernel_rfl⟩⟩
theorem ti87 : TI.ok Tryz.prog 87 ⟨.struct [(0, 3), (1, 24), (2, 2), (3, 2), (4, 48)] true, 8, 64, [.sc (.int .i64 0), .sc (.int .u64 0), .sc (.int .i64 0), .sc (.int .i64 0), .sc (.int .u64 0), .sc (.int .u64 0), .sc (.int .i64 0), .sc (.int .i64 0)]⟩ := TI.of (by kernel_rfl) (by kernel_rfl) (by kernel_rfl) ⟨_, Tryz.underlying87, by kernel_rfl, by kernel_rfl, fun h => ⟨by kernel_rfl, by kernel_rfl, by kernel_rfl⟩⟩
theorem ti107 : TI.ok Tryz.prog 107 ⟨.int .u64, 1, 8, [.sc (.int .u64 0)]⟩ := TI.of (by kernel_rfl) (by kernel_rfl) (by kernel_rfl) (by exact Tryz.underlying107)
theorem ti113 : TI.ok Tryz.prog 113 ⟨.int .i64, 1, 8, [.sc (.int .i64 0)]⟩ := TI.of (by kernel_rfl) (by kernel_rfl) (by kernel_rfl) (by exact Tryz.underlying113)
theorem ti131 : TI.ok Tryz.prog 131 ⟨.array 64 5, 64, 64, [.sc (.int .u8 0), .sc (.int .u8 0), .sc (.int .u8 0), .sc (.int .u8 0), .sc (.int .u8 0), .sc (.int .u8 0), .sc (.int .u8 0), .sc (.int .u8 0), .sc (.int .u8 0), .sc (.int .u8 0), .sc (.int .u8 0), .sc (.int .u8 0), .sc (.int .u8 0), .sc (.int .u8 0), .sc (.int .u8 0), .sc (.int .u8 0), .sc (.int .u8 0), .sc (.int .u8 0), .sc (.int .u8 0), .sc (.int .u8 0), .sc (.int .u8 0), .sc (.int .u8 0), .sc (.int .u8 0), .sc (.int .u8 0), .sc (.int .u8 0), .sc (.int .u8 0), .sc (.int .u8 0), .sc (.int .u8 0), .sc (.int .u8 0), .sc (.int .u8 0), .sc (.int .u8 0), .sc (.int .u8 0), .sc (.int .u8 0), .sc (.int .u8 0), .sc (.int .u8 0), .sc (.int .u8 0), .sc (.int .u8 0), .sc (.int .u8 0), .sc (.int .u8 0), .sc (.int .u8 0), .sc (.int .u8 0), .sc (.int .u8 0), .sc (.int .u8 0), .sc (.int .u8 0), .sc (.int .u8 0), .sc (.int .u8 0), .sc (.int .u8 0), .sc (.int .u8 0), .sc (.int .u8 0), .sc (.int .u8 0), .sc (.int .u8 0), .sc (.int .u8 0), .sc (.int .u8 0), .sc (.int .u8 0), .sc (.int .u8 0), .sc (.int .u8 0), .sc (.int .u8 0), .sc (.int .u8 0), .sc (.int .u8 0), .sc (.int .u8 0), .sc (.int .u8 0), .sc (.int .u8 0), .sc (.int .u8 0), .sc (.int .u8 0)]⟩ := TI.of (by kernel_rfl) (by kernel_rfl) (by kernel_rfl) (by exact Tryz.underlying131)
theorem ti140 : TI.ok Tryz.prog 140 ⟨.slice 2, 1, 24, [.sl true []]⟩ := TI.of (by kernel_rfl) (by kernel_rfl) (by kernel_rfl) (by exact Tryz.underlying140)
theorem ti148 : TI.ok Tryz.prog 148 ⟨.int .u32, 1, 4, [.sc (.int .u32 0)]⟩ := TI.of (by kernel_rfl) (by kernel_rfl) (by kernel_rfl) (by exact Tryz.underlying148)
theorem ti149 : TI.ok Tryz.prog 149 ⟨.int .u8, 1, 1, [.sc (.int .u8 0)]⟩ := TI.of (by kernel_rfl) (by kernel_rfl) (by kernel_rfl) (by exact Tryz.underlying149)
theorem ti150 : TI.ok Tryz.prog 150 ⟨.int .u8, 1, 1, [.sc (.int .u8 0)]⟩ := TI.of (by kernel_rfl) (by kernel_rfl) (by kernel_rfl) (by exact Tryz.underlying150)
theorem ti152 : TI.ok Tryz.prog 152 ⟨.other, 1, 8, [.sc (.pointer none)]⟩ := TI.of (by kernel_rfl) (by kernel_rfl) (by kernel_rfl) ⟨_, Tryz.underlying152, fun _ h => (nomatch h), fun _ _ h => (nomatch h)⟩
theorem ti153 : TI.ok Tryz.prog 153 ⟨.int .i32, 1, 4, [.sc (.int .i32 0)]⟩ := TI.of (by kernel_rfl) (by kernel_rfl) (by kernel_rfl) (by exact Tryz.underlying153)
theorem ti154 : TI.ok Tryz.prog 154 ⟨.int .i32, 1, 4, [.sc (.int .i32 0)]⟩ := TI.of (by kernel_rfl) (by kernel_rfl) (by kernel_rfl) (by exact Tryz.underlying154)
theorem ti155 : TI.ok Tryz.prog 155 ⟨.struct [(0, 12), (1, 12), (2, 148), (3, 149), (4, 5), (5, 5), (6, 150), (7, 151), (8, 152), (9, 153), (10, 154)] false, 11, 48, [.sc (.int .u64 0), .sc (.int .u64 0), .sc (.int .u32 0), .sc (.int .u8 0), .sc (.int .u8 0), .sc (.int .u8 0), .sc (.int .u8 0), .sc (.nilFunc), .sc (.pointer none), .sc (.int .i32 0), .sc (.int .i32 0)]⟩ := TI.of (by kernel_rfl) (by kernel_rfl) (by kernel_rfl) ⟨_, Tryz.underlying155, by kernel_rfl, by kernel_rfl, fun h => (nomatch h)⟩
theorem ti156 : TI.ok Tryz.prog 156 ⟨.struct [(0, 12), (1, 12), (2, 148), (3, 149), (4, 5), (5, 5), (6, 150), (7, 151), (8, 152), (9, 153), (10, 154)] false, 11, 48, [.sc (.int .u64 0), .sc (.int .u64 0), .sc (.int .u32 0), .sc (.int .u8 0), .sc (.int .u8 0), .sc (.int .u8 0), .sc (.int .u8 0), .sc (.nilFunc), .sc (.pointer none), .sc (.int .i32 0), .sc (.int .i32 0)]⟩ := TI.of (by kernel_rfl) (by kernel_rfl) (by kernel_rfl) ⟨_, Tryz.underlying156, by kernel_rfl, by kernel_rfl, fun h => (nomatch h)⟩
theorem tys_ok : (⟨tys, real, rounds⟩ : En).ok Tryz.prog where
  ar := rfl
  lp := rfl
  ty t i h := by
    have h : tys t = some i := h
    unfold tys at h
    split at h
    · cases h; exact ti2
    · cases h; exact ti3
    · cases h; exact ti4
    · cases h; exact ti5
    · cases h; exact ti6
    · cases h; exact ti7
    · cases h; exact ti8
    · cases h; exact ti9
    · cases h; exact ti10
    · cases h; exact ti11
    · cases h; exact ti12
    · cases h; exact ti15
    · cases h; exact ti16
    · cases h; exact ti17
    · cases h; exact ti18
    · cases h; exact ti19
    · cases h; exact ti20
    · cases h; exact ti21
    · cases h; exact ti22
    · cases h; exact ti23
    · cases h; exact ti24
    · cases h; exact ti25
    · cases h; exact ti26
    · cases h; exact ti29
    · cases h; exact ti30
    · cases h; exact ti32
    · cases h; exact ti38
    · cases h; exact ti42
    · cases h; exact ti43
    · cases h; exact ti44
    · cases h; exact ti45
    · cases h; exact ti47
    · cases h; exact ti48
    · cases h; exact ti85
    · cases h; exact ti86
    · cases h; exact ti87
    · cases h; exact ti107
    · cases h; exact ti113
    · cases h; exact ti131
    · cases h; exact ti140
    · cases h; exact ti148
    · cases h; exact ti149
    · cases h; exact ti150
    · cases h; exact ti152
    · cases h; exact ti153
    · cases h; exact ti154
    · cases h; exact ti155
    · cases h; exact ti156
    · cases h
end Go.Vm
