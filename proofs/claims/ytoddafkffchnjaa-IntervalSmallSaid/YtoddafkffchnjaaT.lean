import Derived.KernelRfl
import Derived.Test.YtoddafkffchnjaaProg
import Derived.Test.YtoddafkffchnjaaV0
/- The table of types for the evaluator (made by mkT.py out of Lean's own print of the types). -/
namespace Go.Proofs.Ytoddafkffchnjaa
open Go.Vm

def tys : Types := fun t => match t with
  | 2 => some ⟨.int .i64, 1, 8, [.sc (.int .i64 0)]⟩
  | 3 => some ⟨.int .i64, 1, 8, [.sc (.int .i64 0)]⟩
  | 4 => some ⟨.bool, 1, 1, [.sc (.bool false)]⟩
  | 5 => some ⟨.int .u8, 1, 1, [.sc (.int .u8 0)]⟩
  | 6 => some ⟨.int .u8, 1, 1, [.sc (.int .u8 0)]⟩
  | 7 => some ⟨.struct [(0, 2), (1, 3), (2, 4), (3, 6)] true, 4, 24, [.sc (.int .i64 0), .sc (.int .i64 0), .sc (.bool false), .sc (.int .u8 0)]⟩
  | 8 => some ⟨.struct [(0, 2), (1, 3), (2, 4), (3, 6)] true, 4, 24, [.sc (.int .i64 0), .sc (.int .i64 0), .sc (.bool false), .sc (.int .u8 0)]⟩
  | 9 => some ⟨.string, 1, 16, [.sc (.string ByteArray.empty)]⟩
  | 10 => some ⟨.string, 1, 16, [.sc (.string ByteArray.empty)]⟩
  | 11 => some ⟨.string, 1, 16, [.sc (.string ByteArray.empty)]⟩
  | 12 => some ⟨.int .u64, 1, 8, [.sc (.int .u64 0)]⟩
  | 15 => some ⟨.other, 1, 8, [.sc (.pointer none)]⟩
  | 16 => some ⟨.other, 1, 8, [.sc (.pointer none)]⟩
  | 17 => some ⟨.other, 1, 8, [.sc (.pointer none)]⟩
  | 18 => some ⟨.struct [(0, 17)] false, 1, 8, [.sc (.pointer none)]⟩
  | 19 => some ⟨.struct [(0, 17)] false, 1, 8, [.sc (.pointer none)]⟩
  | 20 => some ⟨.other, 1, 16, [.sc (.nilIface)]⟩
  | 21 => some ⟨.int .i32, 1, 4, [.sc (.int .i32 0)]⟩
  | 22 => some ⟨.slice 3, 1, 24, [.sl true []]⟩
  | 23 => some ⟨.slice 30, 1, 24, [.sl true []]⟩
  | 24 => some ⟨.int .u64, 1, 8, [.sc (.int .u64 0)]⟩
  | 25 => some ⟨.struct [(0, 3), (1, 3), (2, 22), (3, 23), (4, 24)] false, 5, 72, [.sc (.int .i64 0), .sc (.int .i64 0), .sl true [], .sl true [], .sc (.int .u64 0)]⟩
  | 26 => some ⟨.struct [(0, 3), (1, 3), (2, 22), (3, 23), (4, 24)] false, 5, 72, [.sc (.int .i64 0), .sc (.int .i64 0), .sl true [], .sl true [], .sc (.int .u64 0)]⟩
  | 29 => some ⟨.struct [(0, 24), (1, 24), (2, 2), (3, 2)] true, 4, 32, [.sc (.int .u64 0), .sc (.int .u64 0), .sc (.int .i64 0), .sc (.int .i64 0)]⟩
  | 30 => some ⟨.struct [(0, 24), (1, 24), (2, 2), (3, 2)] true, 4, 32, [.sc (.int .u64 0), .sc (.int .u64 0), .sc (.int .i64 0), .sc (.int .i64 0)]⟩
  | 32 => some ⟨.array 4 24, 4, 32, [.sc (.int .u64 0), .sc (.int .u64 0), .sc (.int .u64 0), .sc (.int .u64 0)]⟩
  | 33 => some ⟨.slice 22, 1, 24, [.sl true []]⟩
  | 35 => some ⟨.slice 24, 1, 24, [.sl true []]⟩
  | 40 => some ⟨.int .u16, 1, 2, [.sc (.int .u16 0)]⟩
  | 41 => some ⟨.array 2 40, 2, 4, [.sc (.int .u16 0), .sc (.int .u16 0)]⟩
  | 48 => some ⟨.array 3 35, 3, 72, [.sl true [], .sl true [], .sl true []]⟩
  | 55 => some ⟨.other, 1, 8, [.sc (.pointer none)]⟩
  | 56 => some ⟨.struct [(0, 3), (1, 24), (2, 2), (3, 2), (4, 30)] true, 8, 64, [.sc (.int .i64 0), .sc (.int .u64 0), .sc (.int .i64 0), .sc (.int .i64 0), .sc (.int .u64 0), .sc (.int .u64 0), .sc (.int .i64 0), .sc (.int .i64 0)]⟩
  | 57 => some ⟨.struct [(0, 3), (1, 24), (2, 2), (3, 2), (4, 30)] true, 8, 64, [.sc (.int .i64 0), .sc (.int .u64 0), .sc (.int .i64 0), .sc (.int .i64 0), .sc (.int .u64 0), .sc (.int .u64 0), .sc (.int .i64 0), .sc (.int .i64 0)]⟩
  | 74 => some ⟨.int .i64, 1, 8, [.sc (.int .i64 0)]⟩
  | 99 => some ⟨.int .u64, 1, 8, [.sc (.int .u64 0)]⟩
  | 103 => some ⟨.slice 2, 1, 24, [.sl true []]⟩
  | 111 => some ⟨.int .u32, 1, 4, [.sc (.int .u32 0)]⟩
  | 112 => some ⟨.int .u8, 1, 1, [.sc (.int .u8 0)]⟩
  | 113 => some ⟨.int .u8, 1, 1, [.sc (.int .u8 0)]⟩
  | 115 => some ⟨.other, 1, 8, [.sc (.pointer none)]⟩
  | 116 => some ⟨.int .i32, 1, 4, [.sc (.int .i32 0)]⟩
  | 117 => some ⟨.int .i32, 1, 4, [.sc (.int .i32 0)]⟩
  | 118 => some ⟨.struct [(0, 12), (1, 12), (2, 111), (3, 112), (4, 5), (5, 5), (6, 113), (7, 114), (8, 115), (9, 116), (10, 117)] false, 11, 48, [.sc (.int .u64 0), .sc (.int .u64 0), .sc (.int .u32 0), .sc (.int .u8 0), .sc (.int .u8 0), .sc (.int .u8 0), .sc (.int .u8 0), .sc (.nilFunc), .sc (.pointer none), .sc (.int .i32 0), .sc (.int .i32 0)]⟩
  | 119 => some ⟨.struct [(0, 12), (1, 12), (2, 111), (3, 112), (4, 5), (5, 5), (6, 113), (7, 114), (8, 115), (9, 116), (10, 117)] false, 11, 48, [.sc (.int .u64 0), .sc (.int .u64 0), .sc (.int .u32 0), .sc (.int .u8 0), .sc (.int .u8 0), .sc (.int .u8 0), .sc (.int .u8 0), .sc (.nilFunc), .sc (.pointer none), .sc (.int .i32 0), .sc (.int .i32 0)]⟩
  | _ => none

end Go.Proofs.Ytoddafkffchnjaa
/- The table of types says what the program's own table says. -/
namespace Go.Vm
open Go.Proofs Go.Proofs.Ytoddafkffchnjaa
set_option linter.unusedSimpArgs false
theorem TI.of {P : Program} {t : TypeId} {i : TI} (h1 : (P.info? t).map (fun j => (j.size, j.bytes)) = some (i.size, i.bytes)) (h2 : ((P.info? t).bind (·.zero)).map (fun z => ((ofConst z).cells, z.cells.toList.all Value.oneCell')) = some (i.zero, true))
    (h3 : (i.zero.length == i.size && decide (0 < i.size)) = true) (h4 : i.kd.ok P t) : TI.ok P t i := by
  obtain ⟨j, hj, h1⟩ := Option.map_eq_some_iff.mp h1
  rw [hj] at h2
  obtain ⟨z, hz, h2⟩ := Option.map_eq_some_iff.mp h2
  simp only [Option.bind_some] at hz
  simp only [Prod.mk.injEq] at h1 h2
  simp only [Bool.and_eq_true, beq_iff_eq, decide_eq_true_eq] at h3
  exact ⟨j, z, hj, h1.1, h1.2, hz, h2.1, h2.2, h3.1, h3.2, h4⟩
theorem ti2 : TI.ok Try.prog 2 ⟨.int .i64, 1, 8, [.sc (.int .i64 0)]⟩ := TI.of (by kernel_rfl) (by kernel_rfl) (by kernel_rfl) (by exact Try.underlying2)
theorem ti3 : TI.ok Try.prog 3 ⟨.int .i64, 1, 8, [.sc (.int .i64 0)]⟩ := TI.of (by kernel_rfl) (by kernel_rfl) (by kernel_rfl) (by exact Try.underlying3)
theorem ti4 : TI.ok Try.prog 4 ⟨.bool, 1, 1, [.sc (.bool false)]⟩ := TI.of (by kernel_rfl) (by kernel_rfl) (by kernel_rfl) (by exact Try.underlying4)
theorem ti5 : TI.ok Try.prog 5 ⟨.int .u8, 1, 1, [.sc (.int .u8 0)]⟩ := TI.of (by kernel_rfl) (by kernel_rfl) (by kernel_rfl) (by exact Try.underlying5)
theorem ti6 : TI.ok Try.prog 6 ⟨.int .u8, 1, 1, [.sc (.int .u8 0)]⟩ := TI.of (by kernel_rfl) (by kernel_rfl) (by kernel_rfl) (by exact Try.underlying6)
theorem ti7 : TI.ok Try.prog 7 ⟨.struct [(0, 2), (1, 3), (2, 4), (3, 6)] true, 4, 24, [.sc (.int .i64 0), .sc (.int .i64 0), .sc (.bool false), .sc (.int .u8 0)]⟩ := TI.of (by kernel_rfl) (by kernel_rfl) (by kernel_rfl) ⟨_, Try.underlying7, by kernel_rfl, by kernel_rfl, fun h => ⟨by kernel_rfl, by kernel_rfl, by kernel_rfl⟩⟩
theorem ti8 : TI.ok Try.prog 8 ⟨.struct [(0, 2), (1, 3), (2, 4), (3, 6)] true, 4, 24, [.sc (.int .i64 0), .sc (.int .i64 0), .sc (.bool false), .sc (.int .u8 0)]⟩ := TI.of (by kernel_rfl) (by kernel_rfl) (by kernel_rfl) ⟨_, Try.underlying8, by kernel_rfl, by kernel_rfl, fun h => ⟨by kernel_rfl, by kernel_rfl, by kernel_rfl⟩⟩
theorem ti9 : TI.ok Try.prog 9 ⟨.string, 1, 16, [.sc (.string ByteArray.empty)]⟩ := TI.of (by kernel_rfl) (by kernel_rfl) (by kernel_rfl) (by exact Try.underlying9)
theorem ti10 : TI.ok Try.prog 10 ⟨.string, 1, 16, [.sc (.string ByteArray.empty)]⟩ := TI.of (by kernel_rfl) (by kernel_rfl) (by kernel_rfl) (by exact Try.underlying10)
theorem ti11 : TI.ok Try.prog 11 ⟨.string, 1, 16, [.sc (.string ByteArray.empty)]⟩ := TI.of (by kernel_rfl) (by kernel_rfl) (by kernel_rfl) (by exact Try.underlying11)
theorem ti12 : TI.ok Try.prog 12 ⟨.int .u64, 1, 8, [.sc (.int .u64 0)]⟩ := TI.of (by kernel_rfl) (by kernel_rfl) (by kernel_rfl) (by exact Try.underlying12)
theorem ti15 : TI.ok Try.prog 15 ⟨.other, 1, 8, [.sc (.pointer none)]⟩ := TI.of (by kernel_rfl) (by kernel_rfl) (by kernel_rfl) ⟨_, Try.underlying15, fun _ h => (nomatch h), fun _ _ h => (nomatch h)⟩
theorem ti16 : TI.ok Try.prog 16 ⟨.other, 1, 8, [.sc (.pointer none)]⟩ := TI.of (by kernel_rfl) (by kernel_rfl) (by kernel_rfl) ⟨_, Try.underlying16, fun _ h => (nomatch h), fun _ _ h => (nomatch h)⟩
theorem ti17 : TI.ok Try.prog 17 ⟨.other, 1, 8, [.sc (.pointer none)]⟩ := TI.of (by kernel_rfl) (by kernel_rfl) (by kernel_rfl) ⟨_, Try.underlying17, fun _ h => (nomatch h), fun _ _ h => (nomatch h)⟩
theorem ti18 : TI.ok Try.prog 18 ⟨.struct [(0, 17)] false, 1, 8, [.sc (.pointer none)]⟩ := TI.of (by kernel_rfl) (by kernel_rfl) (by kernel_rfl) ⟨_, Try.underlying18, by kernel_rfl, by kernel_rfl, fun h => (nomatch h)⟩
theorem ti19 : TI.ok Try.prog 19 ⟨.struct [(0, 17)] false, 1, 8, [.sc (.pointer none)]⟩ := TI.of (by kernel_rfl) (by kernel_rfl) (by kernel_rfl) ⟨_, Try.underlying19, by kernel_rfl, by kernel_rfl, fun h => (nomatch h)⟩
theorem ti20 : TI.ok Try.prog 20 ⟨.other, 1, 16, [.sc (.nilIface)]⟩ := TI.of (by kernel_rfl) (by kernel_rfl) (by kernel_rfl) ⟨_, Try.underlying20, fun _ h => (nomatch h), fun _ _ h => (nomatch h)⟩
theorem ti21 : TI.ok Try.prog 21 ⟨.int .i32, 1, 4, [.sc (.int .i32 0)]⟩ := TI.of (by kernel_rfl) (by kernel_rfl) (by kernel_rfl) (by exact Try.underlying21)
theorem ti22 : TI.ok Try.prog 22 ⟨.slice 3, 1, 24, [.sl true []]⟩ := TI.of (by kernel_rfl) (by kernel_rfl) (by kernel_rfl) (by exact Try.underlying22)
theorem ti23 : TI.ok Try.prog 23 ⟨.slice 30, 1, 24, [.sl true []]⟩ := TI.of (by kernel_rfl) (by kernel_rfl) (by kernel_rfl) (by exact Try.underlying23)
theorem ti24 : TI.ok Try.prog 24 ⟨.int .u64, 1, 8, [.sc (.int .u64 0)]⟩ := TI.of (by kernel_rfl) (by kernel_rfl) (by kernel_rfl) (by exact Try.underlying24)
theorem ti25 : TI.ok Try.prog 25 ⟨.struct [(0, 3), (1, 3), (2, 22), (3, 23), (4, 24)] false, 5, 72, [.sc (.int .i64 0), .sc (.int .i64 0), .sl true [], .sl true [], .sc (.int .u64 0)]⟩ := TI.of (by kernel_rfl) (by kernel_rfl) (by kernel_rfl) ⟨_, Try.underlying25, by kernel_rfl, by kernel_rfl, fun h => (nomatch h)⟩
theorem ti26 : TI.ok Try.prog 26 ⟨.struct [(0, 3), (1, 3), (2, 22), (3, 23), (4, 24)] false, 5, 72, [.sc (.int .i64 0), .sc (.int .i64 0), .sl true [], .sl true [], .sc (.int .u64 0)]⟩ := TI.of (by kernel_rfl) (by kernel_rfl) (by kernel_rfl) ⟨_, Try.underlying26, by kernel_rfl, by kernel_rfl, fun h => (nomatch h)⟩
theorem ti29 : TI.ok Try.prog 29 ⟨.struct [(0, 24), (1, 24), (2, 2), (3, 2)] true, 4, 32, [.sc (.int .u64 0), .sc (.int .u64 0), .sc (.int .i64 0), .sc (.int .i64 0)]⟩ := TI.of (by kernel_rfl) (by kernel_rfl) (by kernel_rfl) ⟨_, Try.underlying29, by kernel_rfl, by kernel_rfl, fun h => ⟨by kernel_rfl, by kernel_rfl, by kernel_rfl⟩⟩
theorem ti30 : TI.ok Try.prog 30 ⟨.struct [(0, 24), (1, 24), (2, 2), (3, 2)] true, 4, 32, [.sc (.int .u64 0), .sc (.int .u64 0), .sc (.int .i64 0), .sc (.int .i64 0)]⟩ := TI.of (by kernel_rfl) (by kernel_rfl) (by kernel_rfl) ⟨_, Try.underlying30, by kernel_rfl, by kernel_rfl, fun h => ⟨by kernel_rfl, by kernel_rfl, by kernel_rfl⟩⟩
theorem ti32 : TI.ok Try.prog 32 ⟨.array 4 24, 4, 32, [.sc (.int .u64 0), .sc (.int .u64 0), .sc (.int .u64 0), .sc (.int .u64 0)]⟩ := TI.of (by kernel_rfl) (by kernel_rfl) (by kernel_rfl) (by exact Try.underlying32)
theorem ti33 : TI.ok Try.prog 33 ⟨.slice 22, 1, 24, [.sl true []]⟩ := TI.of (by kernel_rfl) (by kernel_rfl) (by kernel_rfl) (by exact Try.underlying33)
theorem ti35 : TI.ok Try.prog 35 ⟨.slice 24, 1, 24, [.sl true []]⟩ := TI.of (by kernel_rfl) (by kernel_rfl) (by kernel_rfl) (by exact Try.underlying35)
theorem ti40 : TI.ok Try.prog 40 ⟨.int .u16, 1, 2, [.sc (.int .u16 0)]⟩ := TI.of (by kernel_rfl) (by kernel_rfl) (by kernel_rfl) (by exact Try.underlying40)
theorem ti41 : TI.ok Try.prog 41 ⟨.array 2 40, 2, 4, [.sc (.int .u16 0), .sc (.int .u16 0)]⟩ := TI.of (by kernel_rfl) (by kernel_rfl) (by kernel_rfl) (by exact Try.underlying41)
theorem ti48 : TI.ok Try.prog 48 ⟨.array 3 35, 3, 72, [.sl true [], .sl true [], .sl true []]⟩ := TI.of (by kernel_rfl) (by kernel_rfl) (by kernel_rfl) (by exact Try.underlying48)
theorem ti55 : TI.ok Try.prog 55 ⟨.other, 1, 8, [.sc (.pointer none)]⟩ := TI.of (by kernel_rfl) (by kernel_rfl) (by kernel_rfl) ⟨_, Try.underlying55, fun _ h => (nomatch h), fun _ _ h => (nomatch h)⟩
theorem ti56 : TI.ok Try.prog 56 ⟨.struct [(0, 3), (1, 24), (2, 2), (3, 2), (4, 30)] true, 8, 64, [.sc (.int .i64 0), .sc (.int .u64 0), .sc (.int .i64 0), .sc (.int .i64 0), .sc (.int .u64 0), .sc (.int .u64 0), .sc (.int .i64 0), .sc (.int .i64 0)]⟩ := TI.of (by kernel_rfl) (by kernel_rfl) (by kernel_rfl) ⟨_, Try.underlying56, by kernel_rfl, by kernel_rfl, fun h => ⟨by kernel_rfl, by kernel_rfl, by kernel_rfl⟩⟩
theorem ti57 : TI.ok Try.prog 57 ⟨.struct [(0, 3), (1, 24), (2, 2), (3, 2), (4, 30)] true, 8, 64, [.sc (.int .i64 0), .sc (.int .u64 0), .sc (.int .i64 0), .sc (.int .i64 0), .sc (.int .u64 0), .sc (.int .u64 0), .sc (.int .i64 0), .sc (.int .i64 0)]⟩ := TI.of (by kernel_rfl) (by kernel_rfl) (by kernel_rfl) ⟨_, Try.underlying57, by kernel_rfl, by kernel_rfl, fun h => ⟨by kernel_rfl, by kernel_rfl, by kernel_rfl⟩⟩
theorem ti74 : TI.ok Try.prog 74 ⟨.int .i64, 1, 8, [.sc (.int .i64 0)]⟩ := TI.of (by kernel_rfl) (by kernel_rfl) (by kernel_rfl) (by exact Try.underlying74)
theorem ti99 : TI.ok Try.prog 99 ⟨.int .u64, 1, 8, [.sc (.int .u64 0)]⟩ := TI.of (by kernel_rfl) (by kernel_rfl) (by kernel_rfl) (by exact Try.underlying99)
theorem ti103 : TI.ok Try.prog 103 ⟨.slice 2, 1, 24, [.sl true []]⟩ := TI.of (by kernel_rfl) (by kernel_rfl) (by kernel_rfl) (by exact Try.underlying103)
theorem ti111 : TI.ok Try.prog 111 ⟨.int .u32, 1, 4, [.sc (.int .u32 0)]⟩ := TI.of (by kernel_rfl) (by kernel_rfl) (by kernel_rfl) (by exact Try.underlying111)
theorem ti112 : TI.ok Try.prog 112 ⟨.int .u8, 1, 1, [.sc (.int .u8 0)]⟩ := TI.of (by kernel_rfl) (by kernel_rfl) (by kernel_rfl) (by exact Try.underlying112)
theorem ti113 : TI.ok Try.prog 113 ⟨.int .u8, 1, 1, [.sc (.int .u8 0)]⟩ := TI.of (by kernel_rfl) (by kernel_rfl) (by kernel_rfl) (by exact Try.underlying113)
theorem ti115 : TI.ok Try.prog 115 ⟨.other, 1, 8, [.sc (.pointer none)]⟩ := TI.of (by kernel_rfl) (by kernel_rfl) (by kernel_rfl) ⟨_, Try.underlying115, fun _ h => (nomatch h), fun _ _ h => (nomatch h)⟩
theorem ti116 : TI.ok Try.prog 116 ⟨.int .i32, 1, 4, [.sc (.int .i32 0)]⟩ := TI.of (by kernel_rfl) (by kernel_rfl) (by kernel_rfl) (by exact Try.underlying116)
theorem ti117 : TI.ok Try.prog 117 ⟨.int .i32, 1, 4, [.sc (.int .i32 0)]⟩ := TI.of (by kernel_rfl) (by kernel_rfl) (by kernel_rfl) (by exact Try.underlying117)
theorem ti118 : TI.ok Try.prog 118 ⟨.struct [(0, 12), (1, 12), (2, 111), (3, 112), (4, 5), (5, 5), (6, 113), (7, 114), (8, 115), (9, 116), (10, 117)] false, 11, 48, [.sc (.int .u64 0), .sc (.int .u64 0), .sc (.int .u32 0), .sc (.int .u8 0), .sc (.int .u8 0), .sc (.int .u8 0), .sc (.int .u8 0), .sc (.nilFunc), .sc (.pointer none), .sc (.int .i32 0), .sc (.int .i32 0)]⟩ := TI.of (by kernel_rfl) (by kernel_rfl) (by kernel_rfl) ⟨_, Try.underlying118, by kernel_rfl, by kernel_rfl, fun h => (nomatch h)⟩
theorem ti119 : TI.ok Try.prog 119 ⟨.struct [(0, 12), (1, 12), (2, 111), (3, 112), (4, 5), (5, 5), (6, 113), (7, 114), (8, 115), (9, 116), (10, 117)] false, 11, 48, [.sc (.int .u64 0), .sc (.int .u64 0), .sc (.int .u32 0), .sc (.int .u8 0), .sc (.int .u8 0), .sc (.int .u8 0), .sc (.int .u8 0), .sc (.nilFunc), .sc (.pointer none), .sc (.int .i32 0), .sc (.int .i32 0)]⟩ := TI.of (by kernel_rfl) (by kernel_rfl) (by kernel_rfl) ⟨_, Try.underlying119, by kernel_rfl, by kernel_rfl, fun h => (nomatch h)⟩
theorem tys_ok : (⟨tys, real, rounds⟩ : En).ok Try.prog where
  ar := rfl
  lp := rfl
  ty t i h := by
    have h : tys t = some i := h
    unfold tys at h
    split at h
    · cases h; exact ti2
    · cases h; exact ti3
    · cases h; exact ti4
    · cases h; exact ti5
    · cases h; exact ti6
    · cases h; exact ti7
    · cases h; exact ti8
    · cases h; exact ti9
    · cases h; exact ti10
    · cases h; exact ti11
    · cases h; exact ti12
    · cases h; exact ti15
    · cases h; exact ti16
    · cases h; exact ti17
    · cases h; exact ti18
    · cases h; exact ti19
    · cases h; exact ti20
    · cases h; exact ti21
    · cases h; exact ti22
    · cases h; exact ti23
    · cases h; exact ti24
    · cases h; exact ti25
    · cases h; exact ti26
    · cases h; exact ti29
    · cases h; exact ti30
    · cases h; exact ti32
    · cases h; exact ti33
    · cases h; exact ti35
    · cases h; exact ti40
    · cases h; exact ti41
    · cases h; exact ti48
    · cases h; exact ti55
    · cases h; exact ti56
    · cases h; exact ti57
    · cases h; exact ti74
    · cases h; exact ti99
    · cases h; exact ti103
    · cases h; exact ti111
    · cases h; exact ti112
    · cases h; exact ti113
    · cases h; exact ti115
    · cases h; exact ti116
    · cases h; exact ti117
    · cases h; exact ti118
    · cases h; exact ti119
    · cases h
end Go.Vm
