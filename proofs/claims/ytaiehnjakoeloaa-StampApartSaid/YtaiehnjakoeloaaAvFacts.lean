/- Written by a program of mine out of the translation: what the types and functions of this program are to the abstract machine. No condition. -/
import Derived.Test.YtaiehnjakoeloaaAvEval
import Derived.Test.YtaiehnjakoeloaaChecked
import Derived.KernelRfl
namespace Go.Proofs.Ytaiehnjakoeloaa
open Go Go.Aw
@[go_sem] theorem mixedF : Try.prog.follows .mixedOrders = true := by kernel_rfl
attribute [go_sem] Try.underlying0
@[go_sem] theorem cells0F : Try.prog.cellsOf 0 = 1 := by kernel_rfl
@[go_sem] theorem bytes0F : Try.prog.bytesOf 0 = 0 := by kernel_rfl
@[go_sem] theorem notInt0F : notInt Try.prog 0 = true := by kernel_rfl
@[go_sem] theorem concrete0F : concrete Try.prog 0 = true := by kernel_rfl
attribute [go_sem] Try.underlying3
@[go_sem] theorem cells3F : Try.prog.cellsOf 3 = 1 := by kernel_rfl
@[go_sem] theorem bytes3F : Try.prog.bytesOf 3 = 8 := by kernel_rfl
@[go_sem] theorem elemOk3F : elemOk Try.prog 3 = true := by kernel_rfl
@[go_sem] theorem azero3F : azero Try.prog 3 = .int .i64 0 := by kernel_rfl
@[go_sem] theorem concrete3F : concrete Try.prog 3 = true := by kernel_rfl
attribute [go_sem] Try.underlying4
@[go_sem] theorem cells4F : Try.prog.cellsOf 4 = 1 := by kernel_rfl
@[go_sem] theorem bytes4F : Try.prog.bytesOf 4 = 1 := by kernel_rfl
@[go_sem] theorem elemOk4F : elemOk Try.prog 4 = true := by kernel_rfl
@[go_sem] theorem azero4F : azero Try.prog 4 = .bool false := by kernel_rfl
@[go_sem] theorem notInt4F : notInt Try.prog 4 = true := by kernel_rfl
@[go_sem] theorem concrete4F : concrete Try.prog 4 = true := by kernel_rfl
attribute [go_sem] Try.underlying5
@[go_sem] theorem cells5F : Try.prog.cellsOf 5 = 1 := by kernel_rfl
@[go_sem] theorem bytes5F : Try.prog.bytesOf 5 = 1 := by kernel_rfl
@[go_sem] theorem elemOk5F : elemOk Try.prog 5 = true := by kernel_rfl
@[go_sem] theorem azero5F : azero Try.prog 5 = .int .u8 0 := by kernel_rfl
@[go_sem] theorem concrete5F : concrete Try.prog 5 = true := by kernel_rfl
attribute [go_sem] Try.underlying23
@[go_sem] theorem cells23F : Try.prog.cellsOf 23 = 2 := by kernel_rfl
@[go_sem] theorem bytes23F : Try.prog.bytesOf 23 = 16 := by kernel_rfl
@[go_sem] theorem elemOk23F : elemOk Try.prog 23 = true := by kernel_rfl
@[go_sem] theorem azero23F : azero Try.prog 23 = .agg [.int .i64 0, .int .i64 0] := by kernel_rfl
@[go_sem] theorem notInt23F : notInt Try.prog 23 = true := by kernel_rfl
@[go_sem] theorem concrete23F : concrete Try.prog 23 = true := by kernel_rfl
@[go_sem] theorem fieldsKnown23F : fieldsKnown Try.prog 23 = true := by kernel_rfl
@[go_sem] theorem stood23F : Try.prog.stoodInHeld 23 = false := by kernel_rfl
@[go_sem] theorem eqGuard23F : Try.prog.eqGuardType Try.prog.depth 23 = false := by kernel_rfl
attribute [go_sem] Try.underlying24
@[go_sem] theorem cells24F : Try.prog.cellsOf 24 = 1 := by kernel_rfl
@[go_sem] theorem bytes24F : Try.prog.bytesOf 24 = 24 := by kernel_rfl
@[go_sem] theorem elemOk24F : elemOk Try.prog 24 = true := by kernel_rfl
@[go_sem] theorem azero24F : azero Try.prog 24 = .sl true [] := by kernel_rfl
@[go_sem] theorem notInt24F : notInt Try.prog 24 = true := by kernel_rfl
@[go_sem] theorem concrete24F : concrete Try.prog 24 = true := by kernel_rfl
attribute [go_sem] Try.underlying26
@[go_sem] theorem cells26F : Try.prog.cellsOf 26 = 1 := by kernel_rfl
@[go_sem] theorem bytes26F : Try.prog.bytesOf 26 = 8 := by kernel_rfl
@[go_sem] theorem elemOk26F : elemOk Try.prog 26 = true := by kernel_rfl
@[go_sem] theorem azero26F : azero Try.prog 26 = .int .i64 0 := by kernel_rfl
@[go_sem] theorem concrete26F : concrete Try.prog 26 = true := by kernel_rfl
attribute [go_sem] Try.underlying27
@[go_sem] theorem cells27F : Try.prog.cellsOf 27 = 1 := by kernel_rfl
@[go_sem] theorem bytes27F : Try.prog.bytesOf 27 = 0 := by kernel_rfl
@[go_sem] theorem notInt27F : notInt Try.prog 27 = true := by kernel_rfl
@[go_sem] theorem concrete27F : concrete Try.prog 27 = true := by kernel_rfl
attribute [go_sem] Try.underlying29
@[go_sem] theorem cells29F : Try.prog.cellsOf 29 = 1 := by kernel_rfl
@[go_sem] theorem bytes29F : Try.prog.bytesOf 29 = 0 := by kernel_rfl
@[go_sem] theorem notInt29F : notInt Try.prog 29 = true := by kernel_rfl
@[go_sem] theorem concrete29F : concrete Try.prog 29 = true := by kernel_rfl
attribute [go_sem] Try.ntmps2 Try.results2
@[go_sem] theorem callOk2F : callOk Try.prog 2 = true := by kernel_rfl
attribute [go_sem] Try.ntmps3 Try.results3
@[go_sem] theorem callOk3F : callOk Try.prog 3 = true := by kernel_rfl
attribute [go_sem] Try.ntmps4 Try.results4
@[go_sem] theorem callOk4F : callOk Try.prog 4 = true := by kernel_rfl
attribute [go_sem] Try.ntmps5 Try.results5
@[go_sem] theorem callOk5F : callOk Try.prog 5 = true := by kernel_rfl
attribute [go_sem] Try.ntmps6 Try.results6
@[go_sem] theorem callOk6F : callOk Try.prog 6 = true := by kernel_rfl
attribute [go_sem] Try.ntmps7 Try.results7
@[go_sem] theorem callOk7F : callOk Try.prog 7 = true := by kernel_rfl
attribute [go_sem] Try.ntmps8 Try.results8
@[go_sem] theorem callOk8F : callOk Try.prog 8 = true := by kernel_rfl
attribute [go_sem] Try.ntmps9 Try.results9
@[go_sem] theorem callOk9F : callOk Try.prog 9 = true := by kernel_rfl
attribute [go_sem] Try.ntmps10 Try.results10
@[go_sem] theorem callOk10F : callOk Try.prog 10 = true := by kernel_rfl
attribute [go_sem] Try.ntmps11 Try.results11
@[go_sem] theorem callOk11F : callOk Try.prog 11 = true := by kernel_rfl
attribute [go_sem] Try.ntmps12 Try.results12
@[go_sem] theorem callOk12F : callOk Try.prog 12 = true := by kernel_rfl
attribute [go_sem] Try.ntmps13 Try.results13
@[go_sem] theorem callOk13F : callOk Try.prog 13 = true := by kernel_rfl
attribute [go_sem] Try.ntmps14 Try.results14
@[go_sem] theorem callOk14F : callOk Try.prog 14 = true := by kernel_rfl
attribute [go_sem] Try.ntmps15 Try.results15
@[go_sem] theorem callOk15F : callOk Try.prog 15 = true := by kernel_rfl
attribute [go_sem] Try.ntmps16 Try.results16
@[go_sem] theorem callOk16F : callOk Try.prog 16 = true := by kernel_rfl
attribute [go_sem] Try.ntmps17 Try.results17
@[go_sem] theorem callOk17F : callOk Try.prog 17 = true := by kernel_rfl
attribute [go_sem] Try.ntmps18 Try.results18
@[go_sem] theorem callOk18F : callOk Try.prog 18 = true := by kernel_rfl
attribute [go_sem] Try.ntmps19 Try.results19
@[go_sem] theorem callOk19F : callOk Try.prog 19 = true := by kernel_rfl
attribute [go_sem] Try.ntmps20 Try.results20
@[go_sem] theorem callOk20F : callOk Try.prog 20 = true := by kernel_rfl
attribute [go_sem] Try.ntmps21 Try.results21
@[go_sem] theorem callOk21F : callOk Try.prog 21 = true := by kernel_rfl
attribute [go_sem] Try.ntmps22 Try.results22
@[go_sem] theorem callOk22F : callOk Try.prog 22 = true := by kernel_rfl
attribute [go_sem] Try.ntmps23 Try.results23
@[go_sem] theorem callOk23F : callOk Try.prog 23 = true := by kernel_rfl
end Go.Proofs.Ytaiehnjakoeloaa
