/- What the walks read off the tables of types and functions. -/
import Derived.Test.YtigefiejddmidaaProg
import Derived.Test.YtigefiejddmidaaGn
namespace Go.Proofs.Ytigefiejddmidaa
open Go Go.RowKit Go.Proofs.Gw
theorem cl_10 : calledT Try.prog 10 = true := by kernel_rfl
theorem cl_11 : calledT Try.prog 11 = true := by kernel_rfl
theorem cl_12 : calledT Try.prog 12 = true := by kernel_rfl
theorem cl_13 : calledT Try.prog 13 = true := by kernel_rfl
theorem cl_14 : calledT Try.prog 14 = true := by kernel_rfl
theorem cl_15 : calledT Try.prog 15 = true := by kernel_rfl
theorem cl_16 : calledT Try.prog 16 = true := by kernel_rfl
theorem cl_17 : calledT Try.prog 17 = true := by kernel_rfl
theorem cl_18 : calledT Try.prog 18 = true := by kernel_rfl
theorem cl_19 : calledT Try.prog 19 = true := by kernel_rfl
theorem cl_20 : calledT Try.prog 20 = true := by kernel_rfl
theorem cl_21 : calledT Try.prog 21 = true := by kernel_rfl
theorem cl_22 : calledT Try.prog 22 = true := by kernel_rfl
theorem cl_23 : calledT Try.prog 23 = true := by kernel_rfl
theorem cl_24 : calledT Try.prog 24 = true := by kernel_rfl
theorem cl_25 : calledT Try.prog 25 = true := by kernel_rfl
theorem cl_26 : calledT Try.prog 26 = true := by kernel_rfl
theorem cl_27 : calledT Try.prog 27 = true := by kernel_rfl
theorem cl_28 : calledT Try.prog 28 = true := by kernel_rfl
theorem cl_29 : calledT Try.prog 29 = true := by kernel_rfl
theorem cl_30 : calledT Try.prog 30 = true := by kernel_rfl
theorem cl_31 : calledT Try.prog 31 = true := by kernel_rfl
theorem cl_32 : calledT Try.prog 32 = true := by kernel_rfl
theorem cl_33 : calledT Try.prog 33 = true := by kernel_rfl
theorem cl_34 : calledT Try.prog 34 = true := by kernel_rfl
theorem cl_35 : calledT Try.prog 35 = true := by kernel_rfl
theorem cl_36 : calledT Try.prog 36 = true := by kernel_rfl
theorem cl_37 : calledT Try.prog 37 = true := by kernel_rfl
theorem cl_38 : calledT Try.prog 38 = true := by kernel_rfl
theorem cl_8 : calledT Try.prog 8 = true := by kernel_rfl
theorem cl_9 : calledT Try.prog 9 = true := by kernel_rfl
theorem el_24 : elemT Try.prog 24 = some (.agg #[.slice none 0 0, .slice none 0 0, .int .i64 0, .int .i64 0], 4, 64) := by kernel_rfl
theorem el_26 : elemT Try.prog 26 = some (.agg #[.slice none 0 0, .int .i64 0], 2, 32) := by kernel_rfl
theorem el_3 : elemT Try.prog 3 = some (.int .i64 0, 1, 8) := by kernel_rfl
theorem el_33 : elemT Try.prog 33 = some (.agg #[.slice none 0 0, .slice none 0 0, .int .i64 0, .int .i64 0], 4, 64) := by kernel_rfl
theorem el_34 : elemT Try.prog 34 = some (.agg #[.slice none 0 0, .int .i64 0], 2, 32) := by kernel_rfl
theorem fd_24_0 : fieldT Try.prog 24 0 = some 0 := by kernel_rfl
theorem fd_24_1 : fieldT Try.prog 24 1 = some 1 := by kernel_rfl
theorem fd_24_2 : fieldT Try.prog 24 2 = some 2 := by kernel_rfl
theorem fd_24_3 : fieldT Try.prog 24 3 = some 3 := by kernel_rfl
theorem fd_26_0 : fieldT Try.prog 26 0 = some 0 := by kernel_rfl
theorem fd_26_1 : fieldT Try.prog 26 1 = some 1 := by kernel_rfl
theorem fd_33_0 : fieldT Try.prog 33 0 = some 0 := by kernel_rfl
theorem fd_33_1 : fieldT Try.prog 33 1 = some 1 := by kernel_rfl
theorem fd_33_2 : fieldT Try.prog 33 2 = some 2 := by kernel_rfl
theorem fd_33_3 : fieldT Try.prog 33 3 = some 3 := by kernel_rfl
theorem fd_34_0 : fieldT Try.prog 34 0 = some 0 := by kernel_rfl
theorem fd_34_1 : fieldT Try.prog 34 1 = some 1 := by kernel_rfl
theorem fd_62_0 : fieldT Try.prog 62 0 = some 0 := by kernel_rfl
theorem fd_62_1 : fieldT Try.prog 62 1 = some 1 := by kernel_rfl
theorem it_3 : Try.prog.underlying 3 = some (.int .i64) := by kernel_rfl
theorem mx_ : Try.prog.follows .mixedOrders = true := by kernel_rfl
theorem pl_22 : plainT Try.prog 22 = true := by kernel_rfl
theorem pl_3 : plainT Try.prog 3 = true := by kernel_rfl
theorem pl_5 : plainT Try.prog 5 = true := by kernel_rfl
theorem sl_22 : sliceT Try.prog 22 = some (3, 1) := by kernel_rfl
theorem sl_39 : sliceT Try.prog 39 = some (62, 2) := by kernel_rfl
theorem sl_44 : sliceT Try.prog 44 = some (5, 1) := by kernel_rfl
theorem so_5 : (Try.prog.underlying 5).isSome = true := by kernel_rfl
theorem so_54 : (Try.prog.underlying 54).isSome = true := by kernel_rfl
theorem st_24 : structT Try.prog 24 = some 4 := by kernel_rfl
theorem st_26 : structT Try.prog 26 = some 2 := by kernel_rfl
theorem st_33 : structT Try.prog 33 = some 4 := by kernel_rfl
theorem st_34 : structT Try.prog 34 = some 2 := by kernel_rfl
end Go.Proofs.Ytigefiejddmidaa
