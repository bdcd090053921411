/- Written by a program of mine out of the translation: what the types and functions of this program are to the abstract machine. No condition. -/
import Derived.Test.YtoffonjlfomnbaaAvEval
import Derived.Test.YtoffonjlfomnbaaChecked
import Derived.KernelRfl
namespace Go.Proofs.Ytoffonjlfomnbaa
open Go Go.Aw
@[go_sem] theorem mixedF : Try.prog.follows .mixedOrders = true := by kernel_rfl
attribute [go_sem] Try.underlying0
@[go_sem] theorem cells0F : Try.prog.cellsOf 0 = 1 := by kernel_rfl
@[go_sem] theorem bytes0F : Try.prog.bytesOf 0 = 0 := by kernel_rfl
@[go_sem] theorem notInt0F : notInt Try.prog 0 = true := by kernel_rfl
@[go_sem] theorem concrete0F : concrete Try.prog 0 = true := by kernel_rfl
attribute [go_sem] Try.underlying3
@[go_sem] theorem cells3F : Try.prog.cellsOf 3 = 1 := by kernel_rfl
@[go_sem] theorem bytes3F : Try.prog.bytesOf 3 = 8 := by kernel_rfl
@[go_sem] theorem elemOk3F : elemOk Try.prog 3 = true := by kernel_rfl
@[go_sem] theorem azero3F : azero Try.prog 3 = .int .i64 0 := by kernel_rfl
@[go_sem] theorem concrete3F : concrete Try.prog 3 = true := by kernel_rfl
attribute [go_sem] Try.underlying4
@[go_sem] theorem cells4F : Try.prog.cellsOf 4 = 1 := by kernel_rfl
@[go_sem] theorem bytes4F : Try.prog.bytesOf 4 = 1 := by kernel_rfl
@[go_sem] theorem elemOk4F : elemOk Try.prog 4 = true := by kernel_rfl
@[go_sem] theorem azero4F : azero Try.prog 4 = .bool false := by kernel_rfl
@[go_sem] theorem notInt4F : notInt Try.prog 4 = true := by kernel_rfl
@[go_sem] theorem concrete4F : concrete Try.prog 4 = true := by kernel_rfl
attribute [go_sem] Try.underlying5
@[go_sem] theorem cells5F : Try.prog.cellsOf 5 = 1 := by kernel_rfl
@[go_sem] theorem bytes5F : Try.prog.bytesOf 5 = 1 := by kernel_rfl
@[go_sem] theorem elemOk5F : elemOk Try.prog 5 = true := by kernel_rfl
@[go_sem] theorem azero5F : azero Try.prog 5 = .int .u8 0 := by kernel_rfl
@[go_sem] theorem concrete5F : concrete Try.prog 5 = true := by kernel_rfl
attribute [go_sem] Try.underlying9
@[go_sem] theorem cells9F : Try.prog.cellsOf 9 = 1 := by kernel_rfl
@[go_sem] theorem bytes9F : Try.prog.bytesOf 9 = 16 := by kernel_rfl
@[go_sem] theorem elemOk9F : elemOk Try.prog 9 = true := by kernel_rfl
@[go_sem] theorem azero9F : azero Try.prog 9 = .str [] := by kernel_rfl
@[go_sem] theorem notInt9F : notInt Try.prog 9 = true := by kernel_rfl
@[go_sem] theorem concrete9F : concrete Try.prog 9 = true := by kernel_rfl
attribute [go_sem] Try.underlying21
@[go_sem] theorem cells21F : Try.prog.cellsOf 21 = 1 := by kernel_rfl
@[go_sem] theorem bytes21F : Try.prog.bytesOf 21 = 4 := by kernel_rfl
@[go_sem] theorem elemOk21F : elemOk Try.prog 21 = true := by kernel_rfl
@[go_sem] theorem azero21F : azero Try.prog 21 = .int .i32 0 := by kernel_rfl
@[go_sem] theorem concrete21F : concrete Try.prog 21 = true := by kernel_rfl
attribute [go_sem] Try.underlying22
@[go_sem] theorem cells22F : Try.prog.cellsOf 22 = 1 := by kernel_rfl
@[go_sem] theorem bytes22F : Try.prog.bytesOf 22 = 2 := by kernel_rfl
@[go_sem] theorem elemOk22F : elemOk Try.prog 22 = true := by kernel_rfl
@[go_sem] theorem azero22F : azero Try.prog 22 = .int .u16 0 := by kernel_rfl
@[go_sem] theorem concrete22F : concrete Try.prog 22 = true := by kernel_rfl
attribute [go_sem] Try.underlying23
@[go_sem] theorem cells23F : Try.prog.cellsOf 23 = 1 := by kernel_rfl
@[go_sem] theorem bytes23F : Try.prog.bytesOf 23 = 8 := by kernel_rfl
@[go_sem] theorem elemOk23F : elemOk Try.prog 23 = true := by kernel_rfl
@[go_sem] theorem azero23F : azero Try.prog 23 = .nilfunc := by kernel_rfl
@[go_sem] theorem notInt23F : notInt Try.prog 23 = true := by kernel_rfl
@[go_sem] theorem concrete23F : concrete Try.prog 23 = true := by kernel_rfl
attribute [go_sem] Try.underlying24
@[go_sem] theorem cells24F : Try.prog.cellsOf 24 = 1 := by kernel_rfl
@[go_sem] theorem bytes24F : Try.prog.bytesOf 24 = 24 := by kernel_rfl
@[go_sem] theorem elemOk24F : elemOk Try.prog 24 = true := by kernel_rfl
@[go_sem] theorem azero24F : azero Try.prog 24 = .sl true [] := by kernel_rfl
@[go_sem] theorem notInt24F : notInt Try.prog 24 = true := by kernel_rfl
@[go_sem] theorem isSl24F : isSl Try.prog 24 = true := by kernel_rfl
@[go_sem] theorem concrete24F : concrete Try.prog 24 = true := by kernel_rfl
attribute [go_sem] Try.underlying26
@[go_sem] theorem cells26F : Try.prog.cellsOf 26 = 2 := by kernel_rfl
@[go_sem] theorem bytes26F : Try.prog.bytesOf 26 = 16 := by kernel_rfl
@[go_sem] theorem elemOk26F : elemOk Try.prog 26 = true := by kernel_rfl
@[go_sem] theorem azero26F : azero Try.prog 26 = .agg [.int .i64 0, .int .i64 0] := by kernel_rfl
@[go_sem] theorem notInt26F : notInt Try.prog 26 = true := by kernel_rfl
@[go_sem] theorem concrete26F : concrete Try.prog 26 = true := by kernel_rfl
@[go_sem] theorem fieldsKnown26F : fieldsKnown Try.prog 26 = true := by kernel_rfl
@[go_sem] theorem stood26F : Try.prog.stoodInHeld 26 = false := by kernel_rfl
@[go_sem] theorem eqGuard26F : Try.prog.eqGuardType Try.prog.depth 26 = false := by kernel_rfl
attribute [go_sem] Try.underlying28
@[go_sem] theorem cells28F : Try.prog.cellsOf 28 = 7 := by kernel_rfl
@[go_sem] theorem bytes28F : Try.prog.bytesOf 28 = 72 := by kernel_rfl
@[go_sem] theorem elemOk28F : elemOk Try.prog 28 = true := by kernel_rfl
@[go_sem] theorem azero28F : azero Try.prog 28 = .agg [.int .i64 0, .int .i64 0, .int .i64 0, .int .i64 0, .int .i64 0, .str [], .str []] := by kernel_rfl
@[go_sem] theorem notInt28F : notInt Try.prog 28 = true := by kernel_rfl
@[go_sem] theorem concrete28F : concrete Try.prog 28 = true := by kernel_rfl
@[go_sem] theorem fieldsKnown28F : fieldsKnown Try.prog 28 = true := by kernel_rfl
@[go_sem] theorem stood28F : Try.prog.stoodInHeld 28 = false := by kernel_rfl
@[go_sem] theorem eqGuard28F : Try.prog.eqGuardType Try.prog.depth 28 = false := by kernel_rfl
attribute [go_sem] Try.underlying30
@[go_sem] theorem cells30F : Try.prog.cellsOf 30 = 1 := by kernel_rfl
@[go_sem] theorem bytes30F : Try.prog.bytesOf 30 = 24 := by kernel_rfl
@[go_sem] theorem elemOk30F : elemOk Try.prog 30 = true := by kernel_rfl
@[go_sem] theorem azero30F : azero Try.prog 30 = .sl true [] := by kernel_rfl
@[go_sem] theorem notInt30F : notInt Try.prog 30 = true := by kernel_rfl
@[go_sem] theorem isSl30F : isSl Try.prog 30 = true := by kernel_rfl
@[go_sem] theorem concrete30F : concrete Try.prog 30 = true := by kernel_rfl
attribute [go_sem] Try.underlying31
@[go_sem] theorem cells31F : Try.prog.cellsOf 31 = 1 := by kernel_rfl
@[go_sem] theorem bytes31F : Try.prog.bytesOf 31 = 24 := by kernel_rfl
@[go_sem] theorem elemOk31F : elemOk Try.prog 31 = true := by kernel_rfl
@[go_sem] theorem azero31F : azero Try.prog 31 = .sl true [] := by kernel_rfl
@[go_sem] theorem notInt31F : notInt Try.prog 31 = true := by kernel_rfl
@[go_sem] theorem isSl31F : isSl Try.prog 31 = true := by kernel_rfl
@[go_sem] theorem concrete31F : concrete Try.prog 31 = true := by kernel_rfl
attribute [go_sem] Try.underlying33
@[go_sem] theorem cells33F : Try.prog.cellsOf 33 = 2 := by kernel_rfl
@[go_sem] theorem bytes33F : Try.prog.bytesOf 33 = 48 := by kernel_rfl
@[go_sem] theorem elemOk33F : elemOk Try.prog 33 = true := by kernel_rfl
@[go_sem] theorem azero33F : azero Try.prog 33 = .agg [.sl true [], .sl true []] := by kernel_rfl
@[go_sem] theorem notInt33F : notInt Try.prog 33 = true := by kernel_rfl
@[go_sem] theorem concrete33F : concrete Try.prog 33 = true := by kernel_rfl
@[go_sem] theorem fieldsKnown33F : fieldsKnown Try.prog 33 = true := by kernel_rfl
@[go_sem] theorem stood33F : Try.prog.stoodInHeld 33 = false := by kernel_rfl
@[go_sem] theorem eqGuard33F : Try.prog.eqGuardType Try.prog.depth 33 = false := by kernel_rfl
attribute [go_sem] Try.underlying34
@[go_sem] theorem cells34F : Try.prog.cellsOf 34 = 1 := by kernel_rfl
@[go_sem] theorem bytes34F : Try.prog.bytesOf 34 = 0 := by kernel_rfl
@[go_sem] theorem notInt34F : notInt Try.prog 34 = true := by kernel_rfl
@[go_sem] theorem concrete34F : concrete Try.prog 34 = true := by kernel_rfl
attribute [go_sem] Try.underlying36
@[go_sem] theorem cells36F : Try.prog.cellsOf 36 = 1 := by kernel_rfl
@[go_sem] theorem bytes36F : Try.prog.bytesOf 36 = 8 := by kernel_rfl
@[go_sem] theorem elemOk36F : elemOk Try.prog 36 = true := by kernel_rfl
@[go_sem] theorem azero36F : azero Try.prog 36 = .int .i64 0 := by kernel_rfl
@[go_sem] theorem concrete36F : concrete Try.prog 36 = true := by kernel_rfl
attribute [go_sem] Try.underlying37
@[go_sem] theorem cells37F : Try.prog.cellsOf 37 = 1 := by kernel_rfl
@[go_sem] theorem bytes37F : Try.prog.bytesOf 37 = 0 := by kernel_rfl
@[go_sem] theorem notInt37F : notInt Try.prog 37 = true := by kernel_rfl
@[go_sem] theorem concrete37F : concrete Try.prog 37 = true := by kernel_rfl
attribute [go_sem] Try.underlying52
@[go_sem] theorem cells52F : Try.prog.cellsOf 52 = 8 := by kernel_rfl
@[go_sem] theorem bytes52F : Try.prog.bytesOf 52 = 80 := by kernel_rfl
@[go_sem] theorem elemOk52F : elemOk Try.prog 52 = true := by kernel_rfl
@[go_sem] theorem azero52F : azero Try.prog 52 = .agg [.int .i64 0, .int .i64 0, .str [], .int .i64 0, .int .i64 0, .str [], .int .i64 0, .int .i64 0] := by kernel_rfl
@[go_sem] theorem notInt52F : notInt Try.prog 52 = true := by kernel_rfl
@[go_sem] theorem concrete52F : concrete Try.prog 52 = true := by kernel_rfl
@[go_sem] theorem fieldsKnown52F : fieldsKnown Try.prog 52 = true := by kernel_rfl
@[go_sem] theorem stood52F : Try.prog.stoodInHeld 52 = false := by kernel_rfl
@[go_sem] theorem eqGuard52F : Try.prog.eqGuardType Try.prog.depth 52 = false := by kernel_rfl
attribute [go_sem] Try.underlying54
@[go_sem] theorem cells54F : Try.prog.cellsOf 54 = 10 := by kernel_rfl
@[go_sem] theorem bytes54F : Try.prog.bytesOf 54 = 88 := by kernel_rfl
@[go_sem] theorem elemOk54F : elemOk Try.prog 54 = true := by kernel_rfl
@[go_sem] theorem azero54F : azero Try.prog 54 = .agg [.bool false, .bool false, .int .i64 0, .int .i64 0, .str [], .int .i64 0, .int .i64 0, .str [], .int .i64 0, .int .i64 0] := by kernel_rfl
@[go_sem] theorem notInt54F : notInt Try.prog 54 = true := by kernel_rfl
@[go_sem] theorem concrete54F : concrete Try.prog 54 = true := by kernel_rfl
@[go_sem] theorem fieldsKnown54F : fieldsKnown Try.prog 54 = true := by kernel_rfl
@[go_sem] theorem stood54F : Try.prog.stoodInHeld 54 = false := by kernel_rfl
@[go_sem] theorem eqGuard54F : Try.prog.eqGuardType Try.prog.depth 54 = false := by kernel_rfl
attribute [go_sem] Try.underlying56
@[go_sem] theorem cells56F : Try.prog.cellsOf 56 = 1 := by kernel_rfl
@[go_sem] theorem bytes56F : Try.prog.bytesOf 56 = 0 := by kernel_rfl
@[go_sem] theorem notInt56F : notInt Try.prog 56 = true := by kernel_rfl
@[go_sem] theorem concrete56F : concrete Try.prog 56 = true := by kernel_rfl
attribute [go_sem] Try.underlying58
@[go_sem] theorem cells58F : Try.prog.cellsOf 58 = 1 := by kernel_rfl
@[go_sem] theorem bytes58F : Try.prog.bytesOf 58 = 0 := by kernel_rfl
@[go_sem] theorem notInt58F : notInt Try.prog 58 = true := by kernel_rfl
@[go_sem] theorem concrete58F : concrete Try.prog 58 = true := by kernel_rfl
attribute [go_sem] Try.underlying62
@[go_sem] theorem cells62F : Try.prog.cellsOf 62 = 1 := by kernel_rfl
@[go_sem] theorem bytes62F : Try.prog.bytesOf 62 = 24 := by kernel_rfl
@[go_sem] theorem elemOk62F : elemOk Try.prog 62 = true := by kernel_rfl
@[go_sem] theorem azero62F : azero Try.prog 62 = .sl true [] := by kernel_rfl
@[go_sem] theorem notInt62F : notInt Try.prog 62 = true := by kernel_rfl
@[go_sem] theorem isSl62F : isSl Try.prog 62 = true := by kernel_rfl
@[go_sem] theorem concrete62F : concrete Try.prog 62 = true := by kernel_rfl
attribute [go_sem] Try.underlying73
@[go_sem] theorem cells73F : Try.prog.cellsOf 73 = 17 := by kernel_rfl
@[go_sem] theorem bytes73F : Try.prog.bytesOf 73 = 160 := by kernel_rfl
@[go_sem] theorem elemOk73F : elemOk Try.prog 73 = true := by kernel_rfl
@[go_sem] theorem azero73F : azero Try.prog 73 = .agg [.int .i64 0, .int .i64 0, .int .i64 0, .int .i64 0, .int .i64 0, .str [], .str [], .bool false, .bool false, .int .i64 0, .int .i64 0, .str [], .int .i64 0, .int .i64 0, .str [], .int .i64 0, .int .i64 0] := by kernel_rfl
@[go_sem] theorem notInt73F : notInt Try.prog 73 = true := by kernel_rfl
@[go_sem] theorem concrete73F : concrete Try.prog 73 = true := by kernel_rfl
@[go_sem] theorem fieldsKnown73F : fieldsKnown Try.prog 73 = true := by kernel_rfl
@[go_sem] theorem stood73F : Try.prog.stoodInHeld 73 = false := by kernel_rfl
@[go_sem] theorem eqGuard73F : Try.prog.eqGuardType Try.prog.depth 73 = false := by kernel_rfl
attribute [go_sem] Try.underlying75
@[go_sem] theorem cells75F : Try.prog.cellsOf 75 = 1 := by kernel_rfl
@[go_sem] theorem bytes75F : Try.prog.bytesOf 75 = 8 := by kernel_rfl
@[go_sem] theorem elemOk75F : elemOk Try.prog 75 = true := by kernel_rfl
@[go_sem] theorem azero75F : azero Try.prog 75 = .nilfunc := by kernel_rfl
@[go_sem] theorem notInt75F : notInt Try.prog 75 = true := by kernel_rfl
@[go_sem] theorem concrete75F : concrete Try.prog 75 = true := by kernel_rfl
attribute [go_sem] Try.underlying78
@[go_sem] theorem cells78F : Try.prog.cellsOf 78 = 1 := by kernel_rfl
@[go_sem] theorem bytes78F : Try.prog.bytesOf 78 = 8 := by kernel_rfl
@[go_sem] theorem elemOk78F : elemOk Try.prog 78 = true := by kernel_rfl
@[go_sem] theorem azero78F : azero Try.prog 78 = .nilfunc := by kernel_rfl
@[go_sem] theorem notInt78F : notInt Try.prog 78 = true := by kernel_rfl
@[go_sem] theorem concrete78F : concrete Try.prog 78 = true := by kernel_rfl
attribute [go_sem] Try.underlying80
@[go_sem] theorem cells80F : Try.prog.cellsOf 80 = 1 := by kernel_rfl
@[go_sem] theorem bytes80F : Try.prog.bytesOf 80 = 16 := by kernel_rfl
@[go_sem] theorem elemOk80F : elemOk Try.prog 80 = true := by kernel_rfl
@[go_sem] theorem azero80F : azero Try.prog 80 = .nilIface := by kernel_rfl
@[go_sem] theorem notInt80F : notInt Try.prog 80 = true := by kernel_rfl
@[go_sem] theorem isIf80F : isIf Try.prog 80 = true := by kernel_rfl
attribute [go_sem] Try.underlying86
@[go_sem] theorem cells86F : Try.prog.cellsOf 86 = 1 := by kernel_rfl
@[go_sem] theorem bytes86F : Try.prog.bytesOf 86 = 0 := by kernel_rfl
@[go_sem] theorem notInt86F : notInt Try.prog 86 = true := by kernel_rfl
@[go_sem] theorem concrete86F : concrete Try.prog 86 = true := by kernel_rfl
attribute [go_sem] Try.underlying91
@[go_sem] theorem cells91F : Try.prog.cellsOf 91 = 1 := by kernel_rfl
@[go_sem] theorem bytes91F : Try.prog.bytesOf 91 = 0 := by kernel_rfl
@[go_sem] theorem notInt91F : notInt Try.prog 91 = true := by kernel_rfl
@[go_sem] theorem concrete91F : concrete Try.prog 91 = true := by kernel_rfl
attribute [go_sem] Try.underlying95
@[go_sem] theorem cells95F : Try.prog.cellsOf 95 = 1 := by kernel_rfl
@[go_sem] theorem bytes95F : Try.prog.bytesOf 95 = 8 := by kernel_rfl
@[go_sem] theorem elemOk95F : elemOk Try.prog 95 = true := by kernel_rfl
@[go_sem] theorem azero95F : azero Try.prog 95 = .nilfunc := by kernel_rfl
@[go_sem] theorem notInt95F : notInt Try.prog 95 = true := by kernel_rfl
@[go_sem] theorem concrete95F : concrete Try.prog 95 = true := by kernel_rfl
attribute [go_sem] Try.underlying96
@[go_sem] theorem cells96F : Try.prog.cellsOf 96 = 1 := by kernel_rfl
@[go_sem] theorem bytes96F : Try.prog.bytesOf 96 = 8 := by kernel_rfl
@[go_sem] theorem elemOk96F : elemOk Try.prog 96 = true := by kernel_rfl
@[go_sem] theorem azero96F : azero Try.prog 96 = .nilfunc := by kernel_rfl
@[go_sem] theorem notInt96F : notInt Try.prog 96 = true := by kernel_rfl
@[go_sem] theorem concrete96F : concrete Try.prog 96 = true := by kernel_rfl
attribute [go_sem] Try.underlying102
@[go_sem] theorem cells102F : Try.prog.cellsOf 102 = 7 := by kernel_rfl
@[go_sem] theorem bytes102F : Try.prog.bytesOf 102 = 72 := by kernel_rfl
@[go_sem] theorem elemOk102F : elemOk Try.prog 102 = true := by kernel_rfl
@[go_sem] theorem azero102F : azero Try.prog 102 = .agg [.int .i64 0, .int .i64 0, .int .i64 0, .int .i64 0, .int .i64 0, .str [], .str []] := by kernel_rfl
@[go_sem] theorem notInt102F : notInt Try.prog 102 = true := by kernel_rfl
@[go_sem] theorem concrete102F : concrete Try.prog 102 = true := by kernel_rfl
@[go_sem] theorem fieldsKnown102F : fieldsKnown Try.prog 102 = true := by kernel_rfl
@[go_sem] theorem stood102F : Try.prog.stoodInHeld 102 = false := by kernel_rfl
@[go_sem] theorem eqGuard102F : Try.prog.eqGuardType Try.prog.depth 102 = false := by kernel_rfl
attribute [go_sem] Try.underlying103
@[go_sem] theorem cells103F : Try.prog.cellsOf 103 = 7 := by kernel_rfl
@[go_sem] theorem bytes103F : Try.prog.bytesOf 103 = 72 := by kernel_rfl
@[go_sem] theorem elemOk103F : elemOk Try.prog 103 = true := by kernel_rfl
@[go_sem] theorem azero103F : azero Try.prog 103 = .agg [.int .i64 0, .int .i64 0, .int .i64 0, .int .i64 0, .int .i64 0, .str [], .str []] := by kernel_rfl
@[go_sem] theorem notInt103F : notInt Try.prog 103 = true := by kernel_rfl
@[go_sem] theorem concrete103F : concrete Try.prog 103 = true := by kernel_rfl
@[go_sem] theorem fieldsKnown103F : fieldsKnown Try.prog 103 = true := by kernel_rfl
@[go_sem] theorem stood103F : Try.prog.stoodInHeld 103 = false := by kernel_rfl
@[go_sem] theorem eqGuard103F : Try.prog.eqGuardType Try.prog.depth 103 = false := by kernel_rfl
attribute [go_sem] Try.underlying107
@[go_sem] theorem cells107F : Try.prog.cellsOf 107 = 1 := by kernel_rfl
@[go_sem] theorem bytes107F : Try.prog.bytesOf 107 = 8 := by kernel_rfl
@[go_sem] theorem elemOk107F : elemOk Try.prog 107 = true := by kernel_rfl
@[go_sem] theorem azero107F : azero Try.prog 107 = .nilfunc := by kernel_rfl
@[go_sem] theorem notInt107F : notInt Try.prog 107 = true := by kernel_rfl
@[go_sem] theorem concrete107F : concrete Try.prog 107 = true := by kernel_rfl
attribute [go_sem] Try.underlying109
@[go_sem] theorem cells109F : Try.prog.cellsOf 109 = 1 := by kernel_rfl
@[go_sem] theorem bytes109F : Try.prog.bytesOf 109 = 0 := by kernel_rfl
@[go_sem] theorem notInt109F : notInt Try.prog 109 = true := by kernel_rfl
@[go_sem] theorem concrete109F : concrete Try.prog 109 = true := by kernel_rfl
attribute [go_sem] Try.underlying111
@[go_sem] theorem cells111F : Try.prog.cellsOf 111 = 1 := by kernel_rfl
@[go_sem] theorem bytes111F : Try.prog.bytesOf 111 = 8 := by kernel_rfl
@[go_sem] theorem elemOk111F : elemOk Try.prog 111 = true := by kernel_rfl
@[go_sem] theorem azero111F : azero Try.prog 111 = .int .u64 0 := by kernel_rfl
@[go_sem] theorem concrete111F : concrete Try.prog 111 = true := by kernel_rfl
attribute [go_sem] Try.underlying114
@[go_sem] theorem cells114F : Try.prog.cellsOf 114 = 1 := by kernel_rfl
@[go_sem] theorem bytes114F : Try.prog.bytesOf 114 = 0 := by kernel_rfl
@[go_sem] theorem notInt114F : notInt Try.prog 114 = true := by kernel_rfl
@[go_sem] theorem concrete114F : concrete Try.prog 114 = true := by kernel_rfl
attribute [go_sem] Try.underlying135
@[go_sem] theorem cells135F : Try.prog.cellsOf 135 = 1 := by kernel_rfl
@[go_sem] theorem bytes135F : Try.prog.bytesOf 135 = 24 := by kernel_rfl
@[go_sem] theorem elemOk135F : elemOk Try.prog 135 = true := by kernel_rfl
@[go_sem] theorem azero135F : azero Try.prog 135 = .sl true [] := by kernel_rfl
@[go_sem] theorem notInt135F : notInt Try.prog 135 = true := by kernel_rfl
@[go_sem] theorem isSl135F : isSl Try.prog 135 = true := by kernel_rfl
@[go_sem] theorem concrete135F : concrete Try.prog 135 = true := by kernel_rfl
attribute [go_sem] Try.underlying136
@[go_sem] theorem cells136F : Try.prog.cellsOf 136 = 1 := by kernel_rfl
@[go_sem] theorem bytes136F : Try.prog.bytesOf 136 = 0 := by kernel_rfl
@[go_sem] theorem notInt136F : notInt Try.prog 136 = true := by kernel_rfl
@[go_sem] theorem concrete136F : concrete Try.prog 136 = true := by kernel_rfl
attribute [go_sem] Try.underlying139
@[go_sem] theorem cells139F : Try.prog.cellsOf 139 = 1 := by kernel_rfl
@[go_sem] theorem bytes139F : Try.prog.bytesOf 139 = 8 := by kernel_rfl
@[go_sem] theorem elemOk139F : elemOk Try.prog 139 = true := by kernel_rfl
@[go_sem] theorem azero139F : azero Try.prog 139 = .nilfunc := by kernel_rfl
@[go_sem] theorem notInt139F : notInt Try.prog 139 = true := by kernel_rfl
@[go_sem] theorem concrete139F : concrete Try.prog 139 = true := by kernel_rfl
@[go_sem] theorem amethod102_0F : amethod Try.prog 102 "gunwale/op.fits" = some 115 := by kernel_rfl
@[go_sem] theorem amethod103_0F : amethod Try.prog 103 "gunwale/op.fits" = some 124 := by kernel_rfl
attribute [go_sem] Try.ntmps2 Try.results2
@[go_sem] theorem callOk2F : callOk Try.prog 2 = true := by kernel_rfl
attribute [go_sem] Try.ntmps3 Try.results3
@[go_sem] theorem callOk3F : callOk Try.prog 3 = true := by kernel_rfl
attribute [go_sem] Try.ntmps4 Try.results4
@[go_sem] theorem callOk4F : callOk Try.prog 4 = true := by kernel_rfl
attribute [go_sem] Try.ntmps5 Try.results5
@[go_sem] theorem callOk5F : callOk Try.prog 5 = true := by kernel_rfl
attribute [go_sem] Try.ntmps6 Try.results6
@[go_sem] theorem callOk6F : callOk Try.prog 6 = true := by kernel_rfl
attribute [go_sem] Try.ntmps7 Try.results7
@[go_sem] theorem callOk7F : callOk Try.prog 7 = true := by kernel_rfl
attribute [go_sem] Try.ntmps8 Try.results8
@[go_sem] theorem callOk8F : callOk Try.prog 8 = true := by kernel_rfl
attribute [go_sem] Try.ntmps9 Try.results9
@[go_sem] theorem callOk9F : callOk Try.prog 9 = true := by kernel_rfl
attribute [go_sem] Try.ntmps10 Try.results10
@[go_sem] theorem callOk10F : callOk Try.prog 10 = true := by kernel_rfl
attribute [go_sem] Try.ntmps11 Try.results11
@[go_sem] theorem callOk11F : callOk Try.prog 11 = true := by kernel_rfl
attribute [go_sem] Try.ntmps12 Try.results12
@[go_sem] theorem callOk12F : callOk Try.prog 12 = true := by kernel_rfl
attribute [go_sem] Try.ntmps13 Try.results13
@[go_sem] theorem callOk13F : callOk Try.prog 13 = true := by kernel_rfl
attribute [go_sem] Try.ntmps14 Try.results14
@[go_sem] theorem callOk14F : callOk Try.prog 14 = true := by kernel_rfl
attribute [go_sem] Try.ntmps15 Try.results15
@[go_sem] theorem callOk15F : callOk Try.prog 15 = true := by kernel_rfl
attribute [go_sem] Try.ntmps16 Try.results16
@[go_sem] theorem callOk16F : callOk Try.prog 16 = true := by kernel_rfl
attribute [go_sem] Try.ntmps17 Try.results17
@[go_sem] theorem callOk17F : callOk Try.prog 17 = true := by kernel_rfl
attribute [go_sem] Try.ntmps18 Try.results18
@[go_sem] theorem callOk18F : callOk Try.prog 18 = true := by kernel_rfl
attribute [go_sem] Try.ntmps19 Try.results19
@[go_sem] theorem callOk19F : callOk Try.prog 19 = true := by kernel_rfl
attribute [go_sem] Try.ntmps20 Try.results20
@[go_sem] theorem callOk20F : callOk Try.prog 20 = true := by kernel_rfl
attribute [go_sem] Try.ntmps21 Try.results21
@[go_sem] theorem callOk21F : callOk Try.prog 21 = true := by kernel_rfl
attribute [go_sem] Try.ntmps22 Try.results22
@[go_sem] theorem callOk22F : callOk Try.prog 22 = true := by kernel_rfl
attribute [go_sem] Try.ntmps23 Try.results23
@[go_sem] theorem callOk23F : callOk Try.prog 23 = true := by kernel_rfl
attribute [go_sem] Try.ntmps24 Try.results24
@[go_sem] theorem callOk24F : callOk Try.prog 24 = true := by kernel_rfl
attribute [go_sem] Try.ntmps25 Try.results25
@[go_sem] theorem callOk25F : callOk Try.prog 25 = true := by kernel_rfl
attribute [go_sem] Try.ntmps26 Try.results26
@[go_sem] theorem callOk26F : callOk Try.prog 26 = true := by kernel_rfl
attribute [go_sem] Try.ntmps27 Try.results27
@[go_sem] theorem callOk27F : callOk Try.prog 27 = true := by kernel_rfl
attribute [go_sem] Try.ntmps28 Try.results28
@[go_sem] theorem callOk28F : callOk Try.prog 28 = true := by kernel_rfl
attribute [go_sem] Try.ntmps29 Try.results29
@[go_sem] theorem callOk29F : callOk Try.prog 29 = true := by kernel_rfl
attribute [go_sem] Try.ntmps30 Try.results30
@[go_sem] theorem callOk30F : callOk Try.prog 30 = true := by kernel_rfl
attribute [go_sem] Try.ntmps31 Try.results31
@[go_sem] theorem callOk31F : callOk Try.prog 31 = true := by kernel_rfl
attribute [go_sem] Try.ntmps32 Try.results32
@[go_sem] theorem callOk32F : callOk Try.prog 32 = true := by kernel_rfl
attribute [go_sem] Try.ntmps33 Try.results33
@[go_sem] theorem callOk33F : callOk Try.prog 33 = true := by kernel_rfl
attribute [go_sem] Try.ntmps34 Try.results34
@[go_sem] theorem callOk34F : callOk Try.prog 34 = true := by kernel_rfl
attribute [go_sem] Try.ntmps35 Try.results35
@[go_sem] theorem callOk35F : callOk Try.prog 35 = true := by kernel_rfl
attribute [go_sem] Try.ntmps36 Try.results36
@[go_sem] theorem callOk36F : callOk Try.prog 36 = true := by kernel_rfl
attribute [go_sem] Try.ntmps37 Try.results37
@[go_sem] theorem callOk37F : callOk Try.prog 37 = true := by kernel_rfl
attribute [go_sem] Try.ntmps38 Try.results38
@[go_sem] theorem callOk38F : callOk Try.prog 38 = true := by kernel_rfl
attribute [go_sem] Try.ntmps39 Try.results39
@[go_sem] theorem callOk39F : callOk Try.prog 39 = true := by kernel_rfl
attribute [go_sem] Try.ntmps40 Try.results40
@[go_sem] theorem callOk40F : callOk Try.prog 40 = true := by kernel_rfl
attribute [go_sem] Try.ntmps41 Try.results41
@[go_sem] theorem callOk41F : callOk Try.prog 41 = true := by kernel_rfl
attribute [go_sem] Try.ntmps42 Try.results42
@[go_sem] theorem callOk42F : callOk Try.prog 42 = true := by kernel_rfl
attribute [go_sem] Try.ntmps43 Try.results43
@[go_sem] theorem callOk43F : callOk Try.prog 43 = true := by kernel_rfl
attribute [go_sem] Try.ntmps44 Try.results44
@[go_sem] theorem callOk44F : callOk Try.prog 44 = true := by kernel_rfl
attribute [go_sem] Try.ntmps45 Try.results45
@[go_sem] theorem callOk45F : callOk Try.prog 45 = true := by kernel_rfl
attribute [go_sem] Try.ntmps46 Try.results46
@[go_sem] theorem callOk46F : callOk Try.prog 46 = true := by kernel_rfl
attribute [go_sem] Try.ntmps47 Try.results47
@[go_sem] theorem callOk47F : callOk Try.prog 47 = true := by kernel_rfl
attribute [go_sem] Try.ntmps48 Try.results48
@[go_sem] theorem callOk48F : callOk Try.prog 48 = true := by kernel_rfl
attribute [go_sem] Try.ntmps49 Try.results49
@[go_sem] theorem callOk49F : callOk Try.prog 49 = true := by kernel_rfl
attribute [go_sem] Try.ntmps50 Try.results50
@[go_sem] theorem callOk50F : callOk Try.prog 50 = true := by kernel_rfl
attribute [go_sem] Try.ntmps51 Try.results51
@[go_sem] theorem callOk51F : callOk Try.prog 51 = true := by kernel_rfl
attribute [go_sem] Try.ntmps52 Try.results52
@[go_sem] theorem callOk52F : callOk Try.prog 52 = true := by kernel_rfl
attribute [go_sem] Try.ntmps53 Try.results53
@[go_sem] theorem callOk53F : callOk Try.prog 53 = true := by kernel_rfl
attribute [go_sem] Try.ntmps54 Try.results54
@[go_sem] theorem callOk54F : callOk Try.prog 54 = true := by kernel_rfl
attribute [go_sem] Try.ntmps55 Try.results55
@[go_sem] theorem callOk55F : callOk Try.prog 55 = true := by kernel_rfl
attribute [go_sem] Try.ntmps56 Try.results56
@[go_sem] theorem callOk56F : callOk Try.prog 56 = true := by kernel_rfl
attribute [go_sem] Try.ntmps57 Try.results57
@[go_sem] theorem callOk57F : callOk Try.prog 57 = true := by kernel_rfl
attribute [go_sem] Try.ntmps58 Try.results58
@[go_sem] theorem callOk58F : callOk Try.prog 58 = true := by kernel_rfl
attribute [go_sem] Try.ntmps59 Try.results59
@[go_sem] theorem callOk59F : callOk Try.prog 59 = true := by kernel_rfl
attribute [go_sem] Try.ntmps60 Try.results60
@[go_sem] theorem callOk60F : callOk Try.prog 60 = true := by kernel_rfl
attribute [go_sem] Try.ntmps61 Try.results61
@[go_sem] theorem callOk61F : callOk Try.prog 61 = true := by kernel_rfl
attribute [go_sem] Try.ntmps62 Try.results62
@[go_sem] theorem callOk62F : callOk Try.prog 62 = true := by kernel_rfl
attribute [go_sem] Try.ntmps63 Try.results63
@[go_sem] theorem callOk63F : callOk Try.prog 63 = true := by kernel_rfl
attribute [go_sem] Try.ntmps64 Try.results64
@[go_sem] theorem callOk64F : callOk Try.prog 64 = true := by kernel_rfl
attribute [go_sem] Try.ntmps65 Try.results65
@[go_sem] theorem callOk65F : callOk Try.prog 65 = true := by kernel_rfl
attribute [go_sem] Try.ntmps66 Try.results66
@[go_sem] theorem callOk66F : callOk Try.prog 66 = true := by kernel_rfl
attribute [go_sem] Try.ntmps67 Try.results67
@[go_sem] theorem callOk67F : callOk Try.prog 67 = true := by kernel_rfl
attribute [go_sem] Try.ntmps68 Try.results68
@[go_sem] theorem callOk68F : callOk Try.prog 68 = true := by kernel_rfl
attribute [go_sem] Try.ntmps69 Try.results69
@[go_sem] theorem callOk69F : callOk Try.prog 69 = true := by kernel_rfl
attribute [go_sem] Try.ntmps70 Try.results70
@[go_sem] theorem callOk70F : callOk Try.prog 70 = true := by kernel_rfl
attribute [go_sem] Try.ntmps71 Try.results71
@[go_sem] theorem callOk71F : callOk Try.prog 71 = true := by kernel_rfl
attribute [go_sem] Try.ntmps72 Try.results72
@[go_sem] theorem callOk72F : callOk Try.prog 72 = true := by kernel_rfl
attribute [go_sem] Try.ntmps73 Try.results73
@[go_sem] theorem callOk73F : callOk Try.prog 73 = true := by kernel_rfl
attribute [go_sem] Try.ntmps74 Try.results74
@[go_sem] theorem callOk74F : callOk Try.prog 74 = true := by kernel_rfl
attribute [go_sem] Try.ntmps75 Try.results75
@[go_sem] theorem callOk75F : callOk Try.prog 75 = true := by kernel_rfl
attribute [go_sem] Try.ntmps76 Try.results76
@[go_sem] theorem callOk76F : callOk Try.prog 76 = true := by kernel_rfl
attribute [go_sem] Try.ntmps77 Try.results77
@[go_sem] theorem callOk77F : callOk Try.prog 77 = true := by kernel_rfl
attribute [go_sem] Try.ntmps78 Try.results78
@[go_sem] theorem callOk78F : callOk Try.prog 78 = true := by kernel_rfl
attribute [go_sem] Try.ntmps79 Try.results79
@[go_sem] theorem callOk79F : callOk Try.prog 79 = true := by kernel_rfl
attribute [go_sem] Try.ntmps80 Try.results80
@[go_sem] theorem callOk80F : callOk Try.prog 80 = true := by kernel_rfl
attribute [go_sem] Try.ntmps81 Try.results81
@[go_sem] theorem callOk81F : callOk Try.prog 81 = true := by kernel_rfl
attribute [go_sem] Try.ntmps82 Try.results82
@[go_sem] theorem callOk82F : callOk Try.prog 82 = true := by kernel_rfl
attribute [go_sem] Try.ntmps83 Try.results83
@[go_sem] theorem callOk83F : callOk Try.prog 83 = true := by kernel_rfl
attribute [go_sem] Try.ntmps84 Try.results84
@[go_sem] theorem callOk84F : callOk Try.prog 84 = true := by kernel_rfl
attribute [go_sem] Try.ntmps85 Try.results85
@[go_sem] theorem callOk85F : callOk Try.prog 85 = true := by kernel_rfl
attribute [go_sem] Try.ntmps86 Try.results86
@[go_sem] theorem callOk86F : callOk Try.prog 86 = true := by kernel_rfl
attribute [go_sem] Try.ntmps87 Try.results87
@[go_sem] theorem callOk87F : callOk Try.prog 87 = true := by kernel_rfl
attribute [go_sem] Try.ntmps88 Try.results88
@[go_sem] theorem callOk88F : callOk Try.prog 88 = true := by kernel_rfl
attribute [go_sem] Try.ntmps89 Try.results89
@[go_sem] theorem callOk89F : callOk Try.prog 89 = true := by kernel_rfl
attribute [go_sem] Try.ntmps90 Try.results90
@[go_sem] theorem callOk90F : callOk Try.prog 90 = true := by kernel_rfl
attribute [go_sem] Try.ntmps91 Try.results91
@[go_sem] theorem callOk91F : callOk Try.prog 91 = true := by kernel_rfl
attribute [go_sem] Try.ntmps92 Try.results92
@[go_sem] theorem callOk92F : callOk Try.prog 92 = true := by kernel_rfl
attribute [go_sem] Try.ntmps93 Try.results93
@[go_sem] theorem callOk93F : callOk Try.prog 93 = true := by kernel_rfl
attribute [go_sem] Try.ntmps94 Try.results94
@[go_sem] theorem callOk94F : callOk Try.prog 94 = true := by kernel_rfl
attribute [go_sem] Try.ntmps95 Try.results95
@[go_sem] theorem callOk95F : callOk Try.prog 95 = true := by kernel_rfl
attribute [go_sem] Try.ntmps96 Try.results96
@[go_sem] theorem callOk96F : callOk Try.prog 96 = true := by kernel_rfl
attribute [go_sem] Try.ntmps97 Try.results97
@[go_sem] theorem callOk97F : callOk Try.prog 97 = true := by kernel_rfl
attribute [go_sem] Try.ntmps98 Try.results98
@[go_sem] theorem callOk98F : callOk Try.prog 98 = true := by kernel_rfl
attribute [go_sem] Try.ntmps99 Try.results99
@[go_sem] theorem callOk99F : callOk Try.prog 99 = true := by kernel_rfl
attribute [go_sem] Try.ntmps115 Try.results115
@[go_sem] theorem callOk115F : callOk Try.prog 115 = true := by kernel_rfl
attribute [go_sem] Try.ntmps117 Try.results117
@[go_sem] theorem callOk117F : callOk Try.prog 117 = true := by kernel_rfl
attribute [go_sem] Try.ntmps118 Try.results118
@[go_sem] theorem callOk118F : callOk Try.prog 118 = true := by kernel_rfl
attribute [go_sem] Try.ntmps119 Try.results119
@[go_sem] theorem callOk119F : callOk Try.prog 119 = true := by kernel_rfl
attribute [go_sem] Try.ntmps120 Try.results120
@[go_sem] theorem callOk120F : callOk Try.prog 120 = true := by kernel_rfl
attribute [go_sem] Try.ntmps121 Try.results121
@[go_sem] theorem callOk121F : callOk Try.prog 121 = true := by kernel_rfl
attribute [go_sem] Try.ntmps122 Try.results122
@[go_sem] theorem callOk122F : callOk Try.prog 122 = true := by kernel_rfl
attribute [go_sem] Try.ntmps123 Try.results123
@[go_sem] theorem callOk123F : callOk Try.prog 123 = true := by kernel_rfl
attribute [go_sem] Try.ntmps124 Try.results124
@[go_sem] theorem callOk124F : callOk Try.prog 124 = true := by kernel_rfl
end Go.Proofs.Ytoffonjlfomnbaa
