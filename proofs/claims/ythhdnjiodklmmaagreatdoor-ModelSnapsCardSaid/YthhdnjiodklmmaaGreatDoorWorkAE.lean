/- The texts 5 of 51 beneath the rows of this seat (joined by program): the abstract machine, and what the functions answer. No condition. -/
import Derived.Test.YthhdnjiodklmmaaGreatDoorWorkAC
import Derived.Test.YthhdnjiodklmmaaGreatDoorWorkAD
import Derived.Test.YthhdnjiodklmmaaGreatDoorChecked
import Derived.KernelRfl
import Derived.WalkKit
import Derived.ProofKit
import Derived.OpenShut
import Derived.ShutString
import Derived.ChangeOld
import Derived.Below
import Derived.Carry
import Derived.RangeFuncIn
import Derived.LoopNIn
import Derived.Lib.Bytealg
import Derived.Laws.Externs
set_option linter.unusedSimpArgs false
set_option linter.unusedVariables false
set_option linter.unusedSectionVars false
/- Written by a program of mine out of the translation: what the types and functions of this program are to the abstract machine. No condition. -/
namespace Go.Proofs.YthhdnjiodklmmaaGreatDoor
open Go Go.Aw
@[go_sem] theorem jU:Tryz.prog.follows .mixedOrders=true:=by kernel_rfl
@[go_sem] theorem t0F:Tryz.prog.cellsOf 0=1∧Tryz.prog.bytesOf 0=0∧aO Tryz.prog 0=true∧aF Tryz.prog 0=true:=by and_intros<;>kernel_rfl
@[go_sem] theorem t2F:Tryz.prog.cellsOf 2=1∧Tryz.prog.bytesOf 2=8∧aU Tryz.prog 2=true∧aZ Tryz.prog 2=.int .i64 0∧aF Tryz.prog 2=true:=by and_intros<;>kernel_rfl
@[go_sem] theorem t3F:Tryz.prog.cellsOf 3=1∧Tryz.prog.bytesOf 3=8∧aU Tryz.prog 3=true∧aZ Tryz.prog 3=.int .i64 0∧aF Tryz.prog 3=true:=by and_intros<;>kernel_rfl
@[go_sem] theorem t4F:Tryz.prog.cellsOf 4=1∧Tryz.prog.bytesOf 4=1∧aU Tryz.prog 4=true∧aZ Tryz.prog 4=.bool false∧aO Tryz.prog 4=true∧aF Tryz.prog 4=true:=by and_intros<;>kernel_rfl
@[go_sem] theorem t5F:Tryz.prog.cellsOf 5=1∧Tryz.prog.bytesOf 5=1∧aU Tryz.prog 5=true∧aZ Tryz.prog 5=.int .u8 0∧aF Tryz.prog 5=true:=by and_intros<;>kernel_rfl
@[go_sem] theorem t6F:Tryz.prog.cellsOf 6=1∧Tryz.prog.bytesOf 6=1∧aU Tryz.prog 6=true∧aZ Tryz.prog 6=.int .u8 0∧aF Tryz.prog 6=true:=by and_intros<;>kernel_rfl
@[go_sem] theorem t7F:Tryz.prog.cellsOf 7=4∧Tryz.prog.bytesOf 7=24∧aU Tryz.prog 7=true∧aZ Tryz.prog 7=.agg [.int .i64 0,.int .i64 0,.bool false,.int .u8 0]∧aO Tryz.prog 7=true∧aF Tryz.prog 7=true∧bG Tryz.prog 7=true∧Tryz.prog.stoodInHeld 7=false∧Tryz.prog.eqGuardType Tryz.prog.depth 7=false:=by and_intros<;>kernel_rfl
@[go_sem] theorem t9F:Tryz.prog.cellsOf 9=1∧Tryz.prog.bytesOf 9=16∧aU Tryz.prog 9=true∧aZ Tryz.prog 9=.str []∧aO Tryz.prog 9=true∧aF Tryz.prog 9=true:=by and_intros<;>kernel_rfl
@[go_sem] theorem aXQ:Tryz.prog.cellsOf 12=1∧Tryz.prog.bytesOf 12=8∧aU Tryz.prog 12=true∧aZ Tryz.prog 12=.int .u64 0∧aF Tryz.prog 12=true:=by and_intros<;>kernel_rfl
@[go_sem] theorem aXR:Tryz.prog.cellsOf 13=2∧Tryz.prog.bytesOf 13=24∧aU Tryz.prog 13=true∧aZ Tryz.prog 13=.agg [.str [],.int .u64 0]∧aO Tryz.prog 13=true∧aF Tryz.prog 13=true∧bG Tryz.prog 13=true∧Tryz.prog.eqGuardType Tryz.prog.depth 13=false:=by and_intros<;>kernel_rfl
@[go_sem] theorem aXS:Tryz.prog.cellsOf 21=1∧Tryz.prog.bytesOf 21=4∧aU Tryz.prog 21=true∧aZ Tryz.prog 21=.int .i32 0∧aF Tryz.prog 21=true:=by and_intros<;>kernel_rfl
@[go_sem] theorem aXT:Tryz.prog.cellsOf 22=1∧Tryz.prog.bytesOf 22=24∧aU Tryz.prog 22=true∧aZ Tryz.prog 22=.sl true []∧aO Tryz.prog 22=true∧nT Tryz.prog 22=true∧aF Tryz.prog 22=true:=by and_intros<;>kernel_rfl
@[go_sem] theorem aXU:Tryz.prog.cellsOf 23=1∧Tryz.prog.bytesOf 23=8∧aU Tryz.prog 23=true∧aZ Tryz.prog 23=.nilfunc∧aO Tryz.prog 23=true∧aF Tryz.prog 23=true:=by and_intros<;>kernel_rfl
@[go_sem] theorem aXV:Tryz.prog.cellsOf 24=1∧Tryz.prog.bytesOf 24=24∧aU Tryz.prog 24=true∧aZ Tryz.prog 24=.sl true []∧aO Tryz.prog 24=true∧nT Tryz.prog 24=true∧aF Tryz.prog 24=true:=by and_intros<;>kernel_rfl
@[go_sem] theorem aXW:Tryz.prog.cellsOf 25=1∧Tryz.prog.bytesOf 25=24∧aU Tryz.prog 25=true∧aZ Tryz.prog 25=.sl true []∧aO Tryz.prog 25=true∧nT Tryz.prog 25=true∧aF Tryz.prog 25=true:=by and_intros<;>kernel_rfl
@[go_sem] theorem aXX:Tryz.prog.cellsOf 27=2∧Tryz.prog.bytesOf 27=48∧aU Tryz.prog 27=true∧aZ Tryz.prog 27=.agg [.sl true [],.sl true []]∧aO Tryz.prog 27=true∧aF Tryz.prog 27=true∧bG Tryz.prog 27=true∧Tryz.prog.stoodInHeld 27=false∧Tryz.prog.eqGuardType Tryz.prog.depth 27=false:=by and_intros<;>kernel_rfl
@[go_sem] theorem aXY:Tryz.prog.cellsOf 28=1∧Tryz.prog.bytesOf 28=24∧aU Tryz.prog 28=true∧aZ Tryz.prog 28=.sl true []∧aO Tryz.prog 28=true∧nT Tryz.prog 28=true∧aF Tryz.prog 28=true:=by and_intros<;>kernel_rfl
@[go_sem] theorem aXZ:Tryz.prog.cellsOf 29=1∧Tryz.prog.bytesOf 29=24∧aU Tryz.prog 29=true∧aZ Tryz.prog 29=.sl true []∧aO Tryz.prog 29=true∧nT Tryz.prog 29=true∧aF Tryz.prog 29=true:=by and_intros<;>kernel_rfl
@[go_sem] theorem aX0:Tryz.prog.cellsOf 31=7∧Tryz.prog.bytesOf 31=120∧aU Tryz.prog 31=true∧aZ Tryz.prog 31=.agg [.sl true [],.sl true [],.int .i64 0,.int .i64 0,.sl true [],.sl true [],.int .i64 0]∧aO Tryz.prog 31=true∧aF Tryz.prog 31=true∧bG Tryz.prog 31=true∧Tryz.prog.stoodInHeld 31=false∧Tryz.prog.eqGuardType Tryz.prog.depth 31=false:=by and_intros<;>kernel_rfl
@[go_sem] theorem aX1:Tryz.prog.cellsOf 32=1∧Tryz.prog.bytesOf 32=8∧aU Tryz.prog 32=true∧aZ Tryz.prog 32=.int .i64 0∧aF Tryz.prog 32=true:=by and_intros<;>kernel_rfl
@[go_sem] theorem aX2:Tryz.prog.cellsOf 33=1∧Tryz.prog.bytesOf 33=0∧aO Tryz.prog 33=true∧aF Tryz.prog 33=true:=by and_intros<;>kernel_rfl
@[go_sem] theorem aX3:Tryz.prog.cellsOf 36=1∧Tryz.prog.bytesOf 36=24∧aU Tryz.prog 36=true∧aZ Tryz.prog 36=.sl true []∧aO Tryz.prog 36=true∧nT Tryz.prog 36=true∧aF Tryz.prog 36=true:=by and_intros<;>kernel_rfl
@[go_sem] theorem aX4:Tryz.prog.cellsOf 37=1∧Tryz.prog.bytesOf 37=24∧aU Tryz.prog 37=true∧aZ Tryz.prog 37=.sl true []∧aO Tryz.prog 37=true∧nT Tryz.prog 37=true∧aF Tryz.prog 37=true:=by and_intros<;>kernel_rfl
@[go_sem] theorem aX5:Tryz.prog.cellsOf 39=5∧Tryz.prog.bytesOf 39=80∧aU Tryz.prog 39=true∧aZ Tryz.prog 39=.agg [.int .i64 0,.str [],.sl true [],.int .i64 0,.sl true []]∧aO Tryz.prog 39=true∧aF Tryz.prog 39=true∧bG Tryz.prog 39=true∧Tryz.prog.stoodInHeld 39=false∧Tryz.prog.eqGuardType Tryz.prog.depth 39=false:=by and_intros<;>kernel_rfl
@[go_sem] theorem aX6:Tryz.prog.cellsOf 40=1∧Tryz.prog.bytesOf 40=24∧aU Tryz.prog 40=true∧aZ Tryz.prog 40=.sl true []∧aO Tryz.prog 40=true∧nT Tryz.prog 40=true∧aF Tryz.prog 40=true:=by and_intros<;>kernel_rfl
@[go_sem] theorem aX7:Tryz.prog.cellsOf 41=1∧Tryz.prog.bytesOf 41=0∧aO Tryz.prog 41=true∧aF Tryz.prog 41=true:=by and_intros<;>kernel_rfl
@[go_sem] theorem aX8:Tryz.prog.cellsOf 44=5∧Tryz.prog.bytesOf 44=64∧aU Tryz.prog 44=true∧aZ Tryz.prog 44=.agg [.int .i64 0,.str [],.str [],.str [],.int .i64 0]∧aO Tryz.prog 44=true∧aF Tryz.prog 44=true∧bG Tryz.prog 44=true∧Tryz.prog.stoodInHeld 44=false∧Tryz.prog.eqGuardType Tryz.prog.depth 44=false:=by and_intros<;>kernel_rfl
@[go_sem] theorem aX9:Tryz.prog.cellsOf 47=1∧Tryz.prog.bytesOf 47=24∧aU Tryz.prog 47=true∧aZ Tryz.prog 47=.sl true []∧aO Tryz.prog 47=true∧nT Tryz.prog 47=true∧aF Tryz.prog 47=true:=by and_intros<;>kernel_rfl
@[go_sem] theorem aYa:Tryz.prog.cellsOf 48=1∧Tryz.prog.bytesOf 48=0∧aO Tryz.prog 48=true∧aF Tryz.prog 48=true:=by and_intros<;>kernel_rfl
@[go_sem] theorem aYb:Tryz.prog.cellsOf 49=1∧Tryz.prog.bytesOf 49=8∧aU Tryz.prog 49=true∧aZ Tryz.prog 49=.nilfunc∧aO Tryz.prog 49=true∧aF Tryz.prog 49=true:=by and_intros<;>kernel_rfl
@[go_sem] theorem aYc:Tryz.prog.cellsOf 50=1∧Tryz.prog.bytesOf 50=8∧aU Tryz.prog 50=true∧aZ Tryz.prog 50=.nilfunc∧aO Tryz.prog 50=true∧aF Tryz.prog 50=true:=by and_intros<;>kernel_rfl
@[go_sem] theorem aYd:Tryz.prog.cellsOf 53=2∧Tryz.prog.bytesOf 53=32∧aU Tryz.prog 53=true∧aZ Tryz.prog 53=.agg [.sl true [],.bool false]∧aO Tryz.prog 53=true∧aF Tryz.prog 53=true∧bG Tryz.prog 53=true∧Tryz.prog.stoodInHeld 53=false∧Tryz.prog.eqGuardType Tryz.prog.depth 53=false:=by and_intros<;>kernel_rfl
@[go_sem] theorem aYe:Tryz.prog.cellsOf 55=4∧Tryz.prog.bytesOf 55=48∧aU Tryz.prog 55=true∧aZ Tryz.prog 55=.agg [.int .i64 0,.int .i64 0,.sl true [],.bool false]∧aO Tryz.prog 55=true∧aF Tryz.prog 55=true∧bG Tryz.prog 55=true∧Tryz.prog.stoodInHeld 55=false∧Tryz.prog.eqGuardType Tryz.prog.depth 55=false:=by and_intros<;>kernel_rfl
@[go_sem] theorem aYf:Tryz.prog.cellsOf 62=2∧Tryz.prog.bytesOf 62=16∧aU Tryz.prog 62=true∧aZ Tryz.prog 62=.agg [.int .i64 0,.int .i64 0]∧aO Tryz.prog 62=true∧aF Tryz.prog 62=true∧bG Tryz.prog 62=true∧Tryz.prog.stoodInHeld 62=false∧Tryz.prog.eqGuardType Tryz.prog.depth 62=false:=by and_intros<;>kernel_rfl
@[go_sem] theorem aYg:Tryz.prog.cellsOf 64=8∧Tryz.prog.bytesOf 64=80∧aU Tryz.prog 64=true∧aZ Tryz.prog 64=.agg [.int .i64 0,.int .i64 0,.str [],.int .i64 0,.int .i64 0,.str [],.int .i64 0,.int .i64 0]∧aO Tryz.prog 64=true∧aF Tryz.prog 64=true∧bG Tryz.prog 64=true∧Tryz.prog.stoodInHeld 64=false∧Tryz.prog.eqGuardType Tryz.prog.depth 64=false:=by and_intros<;>kernel_rfl
@[go_sem] theorem aYh:Tryz.prog.cellsOf 66=7∧Tryz.prog.bytesOf 66=72∧aU Tryz.prog 66=true∧aZ Tryz.prog 66=.agg [.int .i64 0,.int .i64 0,.int .i64 0,.int .i64 0,.int .i64 0,.str [],.str []]∧aO Tryz.prog 66=true∧aF Tryz.prog 66=true∧bG Tryz.prog 66=true∧Tryz.prog.stoodInHeld 66=false∧Tryz.prog.eqGuardType Tryz.prog.depth 66=false:=by and_intros<;>kernel_rfl
@[go_sem] theorem aYi:Tryz.prog.cellsOf 67=1∧Tryz.prog.bytesOf 67=0∧aO Tryz.prog 67=true∧aF Tryz.prog 67=true:=by and_intros<;>kernel_rfl
@[go_sem] theorem aYj:Tryz.prog.cellsOf 77=1∧Tryz.prog.bytesOf 77=24∧aU Tryz.prog 77=true∧aZ Tryz.prog 77=.sl true []∧aO Tryz.prog 77=true∧nT Tryz.prog 77=true∧aF Tryz.prog 77=true:=by and_intros<;>kernel_rfl
@[go_sem] theorem aYk:Tryz.prog.cellsOf 80=3∧Tryz.prog.bytesOf 80=40∧aU Tryz.prog 80=true∧aZ Tryz.prog 80=.agg [.str [],.int .i64 0,.str []]∧aO Tryz.prog 80=true∧aF Tryz.prog 80=true∧bG Tryz.prog 80=true∧Tryz.prog.stoodInHeld 80=false∧Tryz.prog.eqGuardType Tryz.prog.depth 80=false:=by and_intros<;>kernel_rfl
@[go_sem] theorem aYl:Tryz.prog.cellsOf 83=2∧Tryz.prog.bytesOf 83=24∧aU Tryz.prog 83=true∧aZ Tryz.prog 83=.agg [.int .i64 0,.str []]∧aO Tryz.prog 83=true∧aF Tryz.prog 83=true∧bG Tryz.prog 83=true∧Tryz.prog.stoodInHeld 83=false∧Tryz.prog.eqGuardType Tryz.prog.depth 83=false:=by and_intros<;>kernel_rfl
@[go_sem] theorem aYm:Tryz.prog.cellsOf 85=1∧Tryz.prog.bytesOf 85=8∧aU Tryz.prog 85=true∧aZ Tryz.prog 85=.nilptr∧aO Tryz.prog 85=true∧aF Tryz.prog 85=true:=by and_intros<;>kernel_rfl
@[go_sem] theorem aYn:Tryz.prog.cellsOf 87=18∧Tryz.prog.bytesOf 87=288∧aU Tryz.prog 87=true∧aZ Tryz.prog 87=.agg [.sl true [],.sl true [],.int .i64 0,.int .i64 0,.sl true [],.sl true [],.int .i64 0,.int .i64 0,.str [],.sl true [],.int .i64 0,.sl true [],.int .i64 0,.str [],.str [],.str [],.int .i64 0,.sl true []]∧aO Tryz.prog 87=true∧aF Tryz.prog 87=true∧bG Tryz.prog 87=true∧Tryz.prog.stoodInHeld 87=false∧Tryz.prog.eqGuardType Tryz.prog.depth 87=false:=by and_intros<;>kernel_rfl
@[go_sem] theorem aYo:Tryz.prog.cellsOf 88=1∧Tryz.prog.bytesOf 88=8∧aU Tryz.prog 88=true∧aZ Tryz.prog 88=.nilfunc∧aO Tryz.prog 88=true∧aF Tryz.prog 88=true:=by and_intros<;>kernel_rfl
@[go_sem] theorem aYp:Tryz.prog.cellsOf 89=1∧Tryz.prog.bytesOf 89=0∧aO Tryz.prog 89=true∧aF Tryz.prog 89=true:=by and_intros<;>kernel_rfl
@[go_sem] theorem aYq:Tryz.prog.cellsOf 90=1∧Tryz.prog.bytesOf 90=8∧aU Tryz.prog 90=true∧aZ Tryz.prog 90=.nilmap∧aO Tryz.prog 90=true∧aF Tryz.prog 90=true∧aH6 Tryz.prog 90=some ((.int .i64),88)∧aOg Tryz.prog 90=(.int .i64)∧aOh Tryz.prog 90=88:=by and_intros<;>kernel_rfl
@[go_sem] theorem aYr:Tryz.prog.cellsOf 97=1∧Tryz.prog.bytesOf 97=8∧aU Tryz.prog 97=true∧aZ Tryz.prog 97=.nilfunc∧aO Tryz.prog 97=true∧aF Tryz.prog 97=true:=by and_intros<;>kernel_rfl
@[go_sem] theorem aYs:Tryz.prog.cellsOf 98=1∧Tryz.prog.bytesOf 98=8∧aU Tryz.prog 98=true∧aZ Tryz.prog 98=.nilfunc∧aO Tryz.prog 98=true∧aF Tryz.prog 98=true:=by and_intros<;>kernel_rfl
@[go_sem] theorem aYt:Tryz.prog.cellsOf 99=1∧Tryz.prog.bytesOf 99=8∧aU Tryz.prog 99=true∧aZ Tryz.prog 99=.nilmap∧aO Tryz.prog 99=true∧aF Tryz.prog 99=true∧aH6 Tryz.prog 99=some (.string,80)∧aOg Tryz.prog 99=.string∧aOh Tryz.prog 99=80:=by and_intros<;>kernel_rfl
@[go_sem] theorem aWm:Tryz.prog.cellsOf 100=1∧Tryz.prog.bytesOf 100=8∧aU Tryz.prog 100=true∧aZ Tryz.prog 100=.nilfunc∧aO Tryz.prog 100=true∧aF Tryz.prog 100=true:=by and_intros<;>kernel_rfl
@[go_sem] theorem aWn:Tryz.prog.cellsOf 101=1∧Tryz.prog.bytesOf 101=8∧aU Tryz.prog 101=true∧aZ Tryz.prog 101=.nilfunc∧aO Tryz.prog 101=true∧aF Tryz.prog 101=true:=by and_intros<;>kernel_rfl
@[go_sem] theorem aWo:Tryz.prog.cellsOf 103=1∧Tryz.prog.bytesOf 103=0∧aO Tryz.prog 103=true∧aF Tryz.prog 103=true:=by and_intros<;>kernel_rfl
@[go_sem] theorem aWp:Tryz.prog.cellsOf 105=1∧Tryz.prog.bytesOf 105=0∧aO Tryz.prog 105=true∧aF Tryz.prog 105=true:=by and_intros<;>kernel_rfl
@[go_sem] theorem aWq:Tryz.prog.cellsOf 106=1∧Tryz.prog.bytesOf 106=8∧aU Tryz.prog 106=true∧aZ Tryz.prog 106=.nilmap∧aO Tryz.prog 106=true∧aF Tryz.prog 106=true∧aH6 Tryz.prog 106=some (.string,64)∧aOg Tryz.prog 106=.string∧aOh Tryz.prog 106=64:=by and_intros<;>kernel_rfl
@[go_sem] theorem aWr:Tryz.prog.cellsOf 108=1∧Tryz.prog.bytesOf 108=0∧aO Tryz.prog 108=true∧aF Tryz.prog 108=true:=by and_intros<;>kernel_rfl
@[go_sem] theorem aWs:Tryz.prog.cellsOf 111=1∧Tryz.prog.bytesOf 111=0∧aO Tryz.prog 111=true∧aF Tryz.prog 111=true:=by and_intros<;>kernel_rfl
@[go_sem] theorem aWt:Tryz.prog.cellsOf 116=1∧Tryz.prog.bytesOf 116=0∧aO Tryz.prog 116=true∧aF Tryz.prog 116=true:=by and_intros<;>kernel_rfl
@[go_sem] theorem aWu:Tryz.prog.cellsOf 118=1∧Tryz.prog.bytesOf 118=8∧aU Tryz.prog 118=true∧aZ Tryz.prog 118=.nilfunc∧aO Tryz.prog 118=true∧aF Tryz.prog 118=true:=by and_intros<;>kernel_rfl
@[go_sem] theorem aWv:Tryz.prog.cellsOf 120=1∧Tryz.prog.bytesOf 120=0∧aO Tryz.prog 120=true∧aF Tryz.prog 120=true:=by and_intros<;>kernel_rfl
@[go_sem] theorem aWw:Tryz.prog.cellsOf 123=1∧Tryz.prog.bytesOf 123=24∧aU Tryz.prog 123=true∧aZ Tryz.prog 123=.sl true []∧aO Tryz.prog 123=true∧nT Tryz.prog 123=true∧aF Tryz.prog 123=true:=by and_intros<;>kernel_rfl
@[go_sem] theorem aWx:Tryz.prog.cellsOf 125=10∧Tryz.prog.bytesOf 125=88∧aU Tryz.prog 125=true∧aZ Tryz.prog 125=.agg [.bool false,.bool false,.int .i64 0,.int .i64 0,.str [],.int .i64 0,.int .i64 0,.str [],.int .i64 0,.int .i64 0]∧aO Tryz.prog 125=true∧aF Tryz.prog 125=true∧bG Tryz.prog 125=true∧Tryz.prog.stoodInHeld 125=false∧Tryz.prog.eqGuardType Tryz.prog.depth 125=false:=by and_intros<;>kernel_rfl
@[go_sem] theorem aWy:Tryz.prog.cellsOf 127=17∧Tryz.prog.bytesOf 127=160∧aU Tryz.prog 127=true∧aZ Tryz.prog 127=.agg [.int .i64 0,.int .i64 0,.int .i64 0,.int .i64 0,.int .i64 0,.str [],.str [],.bool false,.bool false,.int .i64 0,.int .i64 0,.str [],.int .i64 0,.int .i64 0,.str [],.int .i64 0,.int .i64 0]∧aO Tryz.prog 127=true∧aF Tryz.prog 127=true∧bG Tryz.prog 127=true∧Tryz.prog.stoodInHeld 127=false∧Tryz.prog.eqGuardType Tryz.prog.depth 127=false:=by and_intros<;>kernel_rfl
@[go_sem] theorem aWz:Tryz.prog.cellsOf 129=1∧Tryz.prog.bytesOf 129=8∧aU Tryz.prog 129=true∧aZ Tryz.prog 129=.nilmap∧aO Tryz.prog 129=true∧aF Tryz.prog 129=true∧aH6 Tryz.prog 129=some ((.int .i64),4)∧aOg Tryz.prog 129=(.int .i64)∧aOh Tryz.prog 129=4:=by and_intros<;>kernel_rfl
@[go_sem] theorem aWA:Tryz.prog.cellsOf 130=1∧Tryz.prog.bytesOf 130=24∧aU Tryz.prog 130=true∧aZ Tryz.prog 130=.sl true []∧aO Tryz.prog 130=true∧nT Tryz.prog 130=true∧aF Tryz.prog 130=true:=by and_intros<;>kernel_rfl
@[go_sem] theorem aWB:Tryz.prog.cellsOf 135=1∧Tryz.prog.bytesOf 135=8∧aU Tryz.prog 135=true∧aZ Tryz.prog 135=.nilfunc∧aO Tryz.prog 135=true∧aF Tryz.prog 135=true:=by and_intros<;>kernel_rfl
@[go_sem] theorem aWC:Tryz.prog.cellsOf 136=1∧Tryz.prog.bytesOf 136=8∧aU Tryz.prog 136=true∧aZ Tryz.prog 136=.nilfunc∧aO Tryz.prog 136=true∧aF Tryz.prog 136=true:=by and_intros<;>kernel_rfl
@[go_sem] theorem aWD:Tryz.prog.cellsOf 139=1∧Tryz.prog.bytesOf 139=8∧aU Tryz.prog 139=true∧aZ Tryz.prog 139=.nilptr∧aO Tryz.prog 139=true∧aF Tryz.prog 139=true:=by and_intros<;>kernel_rfl
@[go_sem] theorem aWE:Tryz.prog.cellsOf 141=2∧Tryz.prog.bytesOf 141=32∧aU Tryz.prog 141=true∧aZ Tryz.prog 141=.agg [.int .i64 0,.sl true []]∧aO Tryz.prog 141=true∧aF Tryz.prog 141=true∧bG Tryz.prog 141=true∧Tryz.prog.stoodInHeld 141=false∧Tryz.prog.eqGuardType Tryz.prog.depth 141=false:=by and_intros<;>kernel_rfl
@[go_sem] theorem aWF:Tryz.prog.cellsOf 143=1∧Tryz.prog.bytesOf 143=24∧aU Tryz.prog 143=true∧aZ Tryz.prog 143=.sl true []∧aO Tryz.prog 143=true∧nT Tryz.prog 143=true∧aF Tryz.prog 143=true:=by and_intros<;>kernel_rfl
@[go_sem] theorem aWG:Tryz.prog.cellsOf 144=1∧Tryz.prog.bytesOf 144=8∧aU Tryz.prog 144=true∧aZ Tryz.prog 144=.nilfunc∧aO Tryz.prog 144=true∧aF Tryz.prog 144=true:=by and_intros<;>kernel_rfl
@[go_sem] theorem aWH:Tryz.prog.cellsOf 145=1∧Tryz.prog.bytesOf 145=0∧aO Tryz.prog 145=true∧aF Tryz.prog 145=true:=by and_intros<;>kernel_rfl
@[go_sem] theorem aWI:Tryz.prog.cellsOf 147=1∧Tryz.prog.bytesOf 147=8∧aU Tryz.prog 147=true∧aZ Tryz.prog 147=.nilfunc∧aO Tryz.prog 147=true∧aF Tryz.prog 147=true:=by and_intros<;>kernel_rfl
@[go_sem] theorem aWJ:Tryz.prog.cellsOf 148=1∧Tryz.prog.bytesOf 148=8∧aU Tryz.prog 148=true∧aZ Tryz.prog 148=.nilfunc∧aO Tryz.prog 148=true∧aF Tryz.prog 148=true:=by and_intros<;>kernel_rfl
@[go_sem] theorem aWK:Tryz.prog.cellsOf 152=5∧Tryz.prog.bytesOf 152=5∧aU Tryz.prog 152=true∧aZ Tryz.prog 152=.agg [.bool false,.bool false,.bool false,.bool false,.bool false]∧aO Tryz.prog 152=true∧aF Tryz.prog 152=true∧bG Tryz.prog 152=true∧Tryz.prog.stoodInHeld 152=false∧Tryz.prog.eqGuardType Tryz.prog.depth 152=false:=by and_intros<;>kernel_rfl
@[go_sem] theorem aWL:Tryz.prog.cellsOf 155=1∧Tryz.prog.bytesOf 155=0∧aO Tryz.prog 155=true∧aF Tryz.prog 155=true:=by and_intros<;>kernel_rfl
@[go_sem] theorem aWM:Tryz.prog.cellsOf 158=1∧Tryz.prog.bytesOf 158=0∧aO Tryz.prog 158=true∧aF Tryz.prog 158=true:=by and_intros<;>kernel_rfl
@[go_sem] theorem aWN:Tryz.prog.cellsOf 160=1∧Tryz.prog.bytesOf 160=0∧aO Tryz.prog 160=true∧aF Tryz.prog 160=true:=by and_intros<;>kernel_rfl
@[go_sem] theorem aWO:Tryz.prog.cellsOf 165=1∧Tryz.prog.bytesOf 165=0∧aO Tryz.prog 165=true∧aF Tryz.prog 165=true:=by and_intros<;>kernel_rfl
@[go_sem] theorem aWP:Tryz.prog.cellsOf 167=1∧Tryz.prog.bytesOf 167=0∧aO Tryz.prog 167=true∧aF Tryz.prog 167=true:=by and_intros<;>kernel_rfl
@[go_sem] theorem aWQ:Tryz.prog.cellsOf 172=1∧Tryz.prog.bytesOf 172=16∧aU Tryz.prog 172=true∧aZ Tryz.prog 172=.nilIface∧aO Tryz.prog 172=true∧aXF Tryz.prog 172=true:=by and_intros<;>kernel_rfl
@[go_sem] theorem aWR:Tryz.prog.cellsOf 180=1∧Tryz.prog.bytesOf 180=8∧aU Tryz.prog 180=true∧aZ Tryz.prog 180=.nilfunc∧aO Tryz.prog 180=true∧aF Tryz.prog 180=true:=by and_intros<;>kernel_rfl
@[go_sem] theorem aWS:Tryz.prog.cellsOf 181=1∧Tryz.prog.bytesOf 181=8∧aU Tryz.prog 181=true∧aZ Tryz.prog 181=.nilfunc∧aO Tryz.prog 181=true∧aF Tryz.prog 181=true:=by and_intros<;>kernel_rfl
@[go_sem] theorem aWT:Tryz.prog.cellsOf 184=1∧Tryz.prog.bytesOf 184=8∧aU Tryz.prog 184=true∧aZ Tryz.prog 184=.nilfunc∧aO Tryz.prog 184=true∧aF Tryz.prog 184=true:=by and_intros<;>kernel_rfl
@[go_sem] theorem aWU:Tryz.prog.cellsOf 185=1∧Tryz.prog.bytesOf 185=0∧aO Tryz.prog 185=true∧aF Tryz.prog 185=true:=by and_intros<;>kernel_rfl
@[go_sem] theorem aWV:Tryz.prog.cellsOf 193=1∧Tryz.prog.bytesOf 193=8∧aU Tryz.prog 193=true∧aZ Tryz.prog 193=.nilfunc∧aO Tryz.prog 193=true∧aF Tryz.prog 193=true:=by and_intros<;>kernel_rfl
@[go_sem] theorem aWW:Tryz.prog.cellsOf 194=1∧Tryz.prog.bytesOf 194=8∧aU Tryz.prog 194=true∧aZ Tryz.prog 194=.nilfunc∧aO Tryz.prog 194=true∧aF Tryz.prog 194=true:=by and_intros<;>kernel_rfl
@[go_sem] theorem aWX:Tryz.prog.cellsOf 200=1∧Tryz.prog.bytesOf 200=0∧aO Tryz.prog 200=true∧aF Tryz.prog 200=true:=by and_intros<;>kernel_rfl
@[go_sem] theorem aWY:Tryz.prog.cellsOf 203=1∧Tryz.prog.bytesOf 203=8∧aU Tryz.prog 203=true∧aZ Tryz.prog 203=.nilfunc∧aO Tryz.prog 203=true∧aF Tryz.prog 203=true:=by and_intros<;>kernel_rfl
@[go_sem] theorem aWZ:Tryz.prog.cellsOf 210=1∧Tryz.prog.bytesOf 210=0∧aO Tryz.prog 210=true∧aF Tryz.prog 210=true:=by and_intros<;>kernel_rfl
@[go_sem] theorem aW0:Tryz.prog.cellsOf 214=1∧Tryz.prog.bytesOf 214=0∧aO Tryz.prog 214=true∧aF Tryz.prog 214=true:=by and_intros<;>kernel_rfl
@[go_sem] theorem aW1:Tryz.prog.cellsOf 216=1∧Tryz.prog.bytesOf 216=8∧aU Tryz.prog 216=true∧aZ Tryz.prog 216=.nilfunc∧aO Tryz.prog 216=true∧aF Tryz.prog 216=true:=by and_intros<;>kernel_rfl
@[go_sem] theorem aW2:Tryz.prog.cellsOf 218=7∧Tryz.prog.bytesOf 218=72∧aU Tryz.prog 218=true∧aZ Tryz.prog 218=.agg [.int .i64 0,.int .i64 0,.int .i64 0,.int .i64 0,.int .i64 0,.str [],.str []]∧aO Tryz.prog 218=true∧aF Tryz.prog 218=true∧bG Tryz.prog 218=true∧Tryz.prog.stoodInHeld 218=false∧Tryz.prog.eqGuardType Tryz.prog.depth 218=false:=by and_intros<;>kernel_rfl
@[go_sem] theorem aW3:Tryz.prog.cellsOf 219=7∧Tryz.prog.bytesOf 219=72∧aU Tryz.prog 219=true∧aZ Tryz.prog 219=.agg [.int .i64 0,.int .i64 0,.int .i64 0,.int .i64 0,.int .i64 0,.str [],.str []]∧aO Tryz.prog 219=true∧aF Tryz.prog 219=true∧bG Tryz.prog 219=true∧Tryz.prog.stoodInHeld 219=false∧Tryz.prog.eqGuardType Tryz.prog.depth 219=false:=by and_intros<;>kernel_rfl
@[go_sem] theorem aW4:Tryz.prog.cellsOf 220=1∧Tryz.prog.bytesOf 220=0∧aO Tryz.prog 220=true∧aF Tryz.prog 220=true:=by and_intros<;>kernel_rfl
@[go_sem] theorem aW5:Tryz.prog.cellsOf 227=1∧Tryz.prog.bytesOf 227=24∧aU Tryz.prog 227=true∧aZ Tryz.prog 227=.sl true []∧aO Tryz.prog 227=true∧nT Tryz.prog 227=true∧aF Tryz.prog 227=true:=by and_intros<;>kernel_rfl
@[go_sem] theorem aW6:Tryz.prog.cellsOf 229=1∧Tryz.prog.bytesOf 229=0∧aO Tryz.prog 229=true∧aF Tryz.prog 229=true:=by and_intros<;>kernel_rfl
@[go_sem] theorem aW7:Tryz.prog.cellsOf 236=1∧Tryz.prog.bytesOf 236=8∧aU Tryz.prog 236=true∧aZ Tryz.prog 236=.nilfunc∧aO Tryz.prog 236=true∧aF Tryz.prog 236=true:=by and_intros<;>kernel_rfl
@[go_sem] theorem aW8:Tryz.prog.cellsOf 238=5∧Tryz.prog.bytesOf 238=40∧aU Tryz.prog 238=true∧aZ Tryz.prog 238=.agg [.int .i64 0,.int .i64 0,.int .i64 0,.int .i64 0,.int .i64 0]∧aO Tryz.prog 238=true∧aF Tryz.prog 238=true∧bG Tryz.prog 238=true∧Tryz.prog.stoodInHeld 238=false∧Tryz.prog.eqGuardType Tryz.prog.depth 238=false:=by and_intros<;>kernel_rfl
@[go_sem] theorem aW9:Tryz.prog.cellsOf 240=1∧Tryz.prog.bytesOf 240=0∧aO Tryz.prog 240=true∧aF Tryz.prog 240=true:=by and_intros<;>kernel_rfl
@[go_sem] theorem aXa:Tryz.prog.cellsOf 242=1∧Tryz.prog.bytesOf 242=0∧aO Tryz.prog 242=true∧aF Tryz.prog 242=true:=by and_intros<;>kernel_rfl
@[go_sem] theorem aXb:Tryz.prog.cellsOf 247=1∧Tryz.prog.bytesOf 247=0∧aO Tryz.prog 247=true∧aF Tryz.prog 247=true:=by and_intros<;>kernel_rfl
@[go_sem] theorem aXc:Tryz.prog.cellsOf 253=1∧Tryz.prog.bytesOf 253=8∧aU Tryz.prog 253=true∧aZ Tryz.prog 253=.nilfunc∧aO Tryz.prog 253=true∧aF Tryz.prog 253=true:=by and_intros<;>kernel_rfl
@[go_sem] theorem aXd:Tryz.prog.cellsOf 257=1∧Tryz.prog.bytesOf 257=8∧aU Tryz.prog 257=true∧aZ Tryz.prog 257=.int .u64 0∧aF Tryz.prog 257=true:=by and_intros<;>kernel_rfl
@[go_sem] theorem aXe:Tryz.prog.cellsOf 259=1∧Tryz.prog.bytesOf 259=0∧aO Tryz.prog 259=true∧aF Tryz.prog 259=true:=by and_intros<;>kernel_rfl
@[go_sem] theorem aXf:Tryz.prog.cellsOf 263=1∧Tryz.prog.bytesOf 263=8∧aU Tryz.prog 263=true∧aZ Tryz.prog 263=.nilptr∧aO Tryz.prog 263=true∧aF Tryz.prog 263=true:=by and_intros<;>kernel_rfl
@[go_sem] theorem aXg:Tryz.prog.cellsOf 264=1∧Tryz.prog.bytesOf 264=8∧aU Tryz.prog 264=true∧aZ Tryz.prog 264=.nilptr∧aO Tryz.prog 264=true∧aF Tryz.prog 264=true:=by and_intros<;>kernel_rfl
@[go_sem] theorem aXh:Tryz.prog.cellsOf 265=1∧Tryz.prog.bytesOf 265=0∧aO Tryz.prog 265=true∧aF Tryz.prog 265=true:=by and_intros<;>kernel_rfl
@[go_sem] theorem aXi:Tryz.prog.cellsOf 275=1∧Tryz.prog.bytesOf 275=8∧aU Tryz.prog 275=true∧aZ Tryz.prog 275=.int .i64 0∧aF Tryz.prog 275=true:=by and_intros<;>kernel_rfl
@[go_sem] theorem aXj:Tryz.prog.cellsOf 276=1∧Tryz.prog.bytesOf 276=0∧aO Tryz.prog 276=true∧aF Tryz.prog 276=true:=by and_intros<;>kernel_rfl
@[go_sem] theorem aXk:Tryz.prog.cellsOf 282=1∧Tryz.prog.bytesOf 282=4∧aU Tryz.prog 282=true∧aZ Tryz.prog 282=.int .u32 0∧aF Tryz.prog 282=true:=by and_intros<;>kernel_rfl
@[go_sem] theorem aXl:Tryz.prog.cellsOf 284=1∧Tryz.prog.bytesOf 284=8∧aU Tryz.prog 284=true∧aZ Tryz.prog 284=.int .u64 0∧aF Tryz.prog 284=true:=by and_intros<;>kernel_rfl
@[go_sem] theorem aXm:Tryz.prog.cellsOf 285=1∧Tryz.prog.bytesOf 285=8∧aU Tryz.prog 285=true∧aZ Tryz.prog 285=.nilfunc∧aO Tryz.prog 285=true∧aF Tryz.prog 285=true:=by and_intros<;>kernel_rfl
@[go_sem] theorem aXn:Tryz.prog.cellsOf 288=1∧Tryz.prog.bytesOf 288=24∧aU Tryz.prog 288=true∧aZ Tryz.prog 288=.sl true []∧aO Tryz.prog 288=true∧nT Tryz.prog 288=true∧aF Tryz.prog 288=true:=by and_intros<;>kernel_rfl
@[go_sem] theorem aXo:Tryz.prog.cellsOf 289=1∧Tryz.prog.bytesOf 289=24∧aU Tryz.prog 289=true∧aZ Tryz.prog 289=.sl true []∧aO Tryz.prog 289=true∧nT Tryz.prog 289=true∧aF Tryz.prog 289=true:=by and_intros<;>kernel_rfl
@[go_sem] theorem aXp:Tryz.prog.cellsOf 291=1∧Tryz.prog.bytesOf 291=8∧aU Tryz.prog 291=true∧aZ Tryz.prog 291=.int .u64 0∧aF Tryz.prog 291=true:=by and_intros<;>kernel_rfl
@[go_sem] theorem aXq:Tryz.prog.cellsOf 297=1∧Tryz.prog.bytesOf 297=0∧aO Tryz.prog 297=true∧aF Tryz.prog 297=true:=by and_intros<;>kernel_rfl
@[go_sem] theorem aXr:Tryz.prog.cellsOf 301=1∧Tryz.prog.bytesOf 301=8∧aU Tryz.prog 301=true∧aZ Tryz.prog 301=.nilptr∧aO Tryz.prog 301=true∧aF Tryz.prog 301=true:=by and_intros<;>kernel_rfl
@[go_sem] theorem aXs:Tryz.prog.cellsOf 303=256∧Tryz.prog.bytesOf 303=256∧aU Tryz.prog 303=true∧aZ Tryz.prog 303=.agg [.int .u8 0,.int .u8 0,.int .u8 0,.int .u8 0,.int .u8 0,.int .u8 0,.int .u8 0,.int .u8 0,.int .u8 0,.int .u8 0,.int .u8 0,.int .u8 0,.int .u8 0,.int .u8 0,.int .u8 0,.int .u8 0,.int .u8 0,.int .u8 0,.int .u8 0,.int .u8 0,.int .u8 0,.int .u8 0,.int .u8 0,.int .u8 0,.int .u8 0,.int .u8 0,.int .u8 0,.int .u8 0,.int .u8 0,.int .u8 0,.int .u8 0,.int .u8 0,.int .u8 0,.int .u8 0,.int .u8 0,.int .u8 0,.int .u8 0,.int .u8 0,.int .u8 0,.int .u8 0,.int .u8 0,.int .u8 0,.int .u8 0,.int .u8 0,.int .u8 0,.int .u8 0,.int .u8 0,.int .u8 0,.int .u8 0,.int .u8 0,.int .u8 0,.int .u8 0,.int .u8 0,.int .u8 0,.int .u8 0,.int .u8 0,.int .u8 0,.int .u8 0,.int .u8 0,.int .u8 0,.int .u8 0,.int .u8 0,.int .u8 0,.int .u8 0,.int .u8 0,.int .u8 0,.int .u8 0,.int .u8 0,.int .u8 0,.int .u8 0,.int .u8 0,.int .u8 0,.int .u8 0,.int .u8 0,.int .u8 0,.int .u8 0,.int .u8 0,.int .u8 0,.int .u8 0,.int .u8 0,.int .u8 0,.int .u8 0,.int .u8 0,.int .u8 0,.int .u8 0,.int .u8 0,.int .u8 0,.int .u8 0,.int .u8 0,.int .u8 0,.int .u8 0,.int .u8 0,.int .u8 0,.int .u8 0,.int .u8 0,.int .u8 0,.int .u8 0,.int .u8 0,.int .u8 0,.int .u8 0,.int .u8 0,.int .u8 0,.int .u8 0,.int .u8 0,.int .u8 0,.int .u8 0,.int .u8 0,.int .u8 0,.int .u8 0,.int .u8 0,.int .u8 0,.int .u8 0,.int .u8 0,.int .u8 0,.int .u8 0,.int .u8 0,.int .u8 0,.int .u8 0,.int .u8 0,.int .u8 0,.int .u8 0,.int .u8 0,.int .u8 0,.int .u8 0,.int .u8 0,.int .u8 0,.int .u8 0,.int .u8 0,.int .u8 0,.int .u8 0,.int .u8 0,.int .u8 0,.int .u8 0,.int .u8 0,.int .u8 0,.int .u8 0,.int .u8 0,.int .u8 0,.int .u8 0,.int .u8 0,.int .u8 0,.int .u8 0,.int .u8 0,.int .u8 0,.int .u8 0,.int .u8 0,.int .u8 0,.int .u8 0,.int .u8 0,.int .u8 0,.int .u8 0,.int .u8 0,.int .u8 0,.int .u8 0,.int .u8 0,.int .u8 0,.int .u8 0,.int .u8 0,.int .u8 0,.int .u8 0,.int .u8 0,.int .u8 0,.int .u8 0,.int .u8 0,.int .u8 0,.int .u8 0,.int .u8 0,.int .u8 0,.int .u8 0,.int .u8 0,.int .u8 0,.int .u8 0,.int .u8 0,.int .u8 0,.int .u8 0,.int .u8 0,.int .u8 0,.int .u8 0,.int .u8 0,.int .u8 0,.int .u8 0,.int .u8 0,.int .u8 0,.int .u8 0,.int .u8 0,.int .u8 0,.int .u8 0,.int .u8 0,.int .u8 0,.int .u8 0,.int .u8 0,.int .u8 0,.int .u8 0,.int .u8 0,.int .u8 0,.int .u8 0,.int .u8 0,.int .u8 0,.int .u8 0,.int .u8 0,.int .u8 0,.int .u8 0,.int .u8 0,.int .u8 0,.int .u8 0,.int .u8 0,.int .u8 0,.int .u8 0,.int .u8 0,.int .u8 0,.int .u8 0,.int .u8 0,.int .u8 0,.int .u8 0,.int .u8 0,.int .u8 0,.int .u8 0,.int .u8 0,.int .u8 0,.int .u8 0,.int .u8 0,.int .u8 0,.int .u8 0,.int .u8 0,.int .u8 0,.int .u8 0,.int .u8 0,.int .u8 0,.int .u8 0,.int .u8 0,.int .u8 0,.int .u8 0,.int .u8 0,.int .u8 0,.int .u8 0,.int .u8 0,.int .u8 0,.int .u8 0,.int .u8 0,.int .u8 0,.int .u8 0,.int .u8 0,.int .u8 0,.int .u8 0,.int .u8 0,.int .u8 0,.int .u8 0,.int .u8 0,.int .u8 0,.int .u8 0,.int .u8 0,.int .u8 0,.int .u8 0,.int .u8 0,.int .u8 0,.int .u8 0]∧aO Tryz.prog 303=true∧aF Tryz.prog 303=true∧bG Tryz.prog 303=true∧Tryz.prog.stoodInHeld 303=false∧Tryz.prog.eqGuardType Tryz.prog.depth 303=false:=by and_intros<;>kernel_rfl
@[go_sem] theorem aXt:Tryz.prog.cellsOf 305=2∧Tryz.prog.bytesOf 305=2∧aU Tryz.prog 305=true∧aZ Tryz.prog 305=.agg [.int .u8 0,.int .u8 0]∧aO Tryz.prog 305=true∧aF Tryz.prog 305=true∧bG Tryz.prog 305=true∧Tryz.prog.stoodInHeld 305=false∧Tryz.prog.eqGuardType Tryz.prog.depth 305=false:=by and_intros<;>kernel_rfl
@[go_sem] theorem aXu:Tryz.prog.cellsOf 306=32∧Tryz.prog.bytesOf 306=32∧aU Tryz.prog 306=true∧aZ Tryz.prog 306=.agg [.int .u8 0,.int .u8 0,.int .u8 0,.int .u8 0,.int .u8 0,.int .u8 0,.int .u8 0,.int .u8 0,.int .u8 0,.int .u8 0,.int .u8 0,.int .u8 0,.int .u8 0,.int .u8 0,.int .u8 0,.int .u8 0,.int .u8 0,.int .u8 0,.int .u8 0,.int .u8 0,.int .u8 0,.int .u8 0,.int .u8 0,.int .u8 0,.int .u8 0,.int .u8 0,.int .u8 0,.int .u8 0,.int .u8 0,.int .u8 0,.int .u8 0,.int .u8 0]∧aO Tryz.prog 306=true∧aF Tryz.prog 306=true∧bG Tryz.prog 306=true∧Tryz.prog.stoodInHeld 306=false∧Tryz.prog.eqGuardType Tryz.prog.depth 306=false:=by and_intros<;>kernel_rfl
@[go_sem] theorem aXv:Tryz.prog.cellsOf 307=1∧Tryz.prog.bytesOf 307=0∧aO Tryz.prog 307=true∧aF Tryz.prog 307=true:=by and_intros<;>kernel_rfl
@[go_sem] theorem aKZ:rC Tryz.prog 218 "gunwale/op.fits" =some 271:=by kernel_rfl
@[go_sem] theorem aK0:rC Tryz.prog 219 "gunwale/op.fits" =some 273:=by kernel_rfl
@[go_sem] theorem aT2:aB Tryz.prog 2=true:=by kernel_rfl
@[go_sem] theorem aT3:aB Tryz.prog 3=true:=by kernel_rfl
@[go_sem] theorem aT4:aB Tryz.prog 4=true:=by kernel_rfl
@[go_sem] theorem aT5:aB Tryz.prog 5=true:=by kernel_rfl
@[go_sem] theorem aT6:aB Tryz.prog 6=true:=by kernel_rfl
@[go_sem] theorem aT7:aB Tryz.prog 7=true:=by kernel_rfl
@[go_sem] theorem aT8:aB Tryz.prog 8=true:=by kernel_rfl
@[go_sem] theorem aT9:aB Tryz.prog 9=true:=by kernel_rfl
@[go_sem] theorem aSn:aB Tryz.prog 10=true:=by kernel_rfl
@[go_sem] theorem bT:aB Tryz.prog 11=true:=by kernel_rfl
@[go_sem] theorem bH:aB Tryz.prog 12=true:=by kernel_rfl
@[go_sem] theorem bF:aB Tryz.prog 13=true:=by kernel_rfl
@[go_sem] theorem aN:aB Tryz.prog 14=true:=by kernel_rfl
@[go_sem] theorem aBx:aB Tryz.prog 15=true:=by kernel_rfl
@[go_sem] theorem jM:aB Tryz.prog 16=true:=by kernel_rfl
@[go_sem] theorem aGD:aB Tryz.prog 17=true:=by kernel_rfl
@[go_sem] theorem fH:aB Tryz.prog 18=true:=by kernel_rfl
@[go_sem] theorem fI:aB Tryz.prog 19=true:=by kernel_rfl
@[go_sem] theorem rF:aB Tryz.prog 20=true:=by kernel_rfl
@[go_sem] theorem gY:aB Tryz.prog 21=true:=by kernel_rfl
@[go_sem] theorem aSo:aB Tryz.prog 22=true:=by kernel_rfl
@[go_sem] theorem aSp:aB Tryz.prog 23=true:=by kernel_rfl
@[go_sem] theorem aSq:aB Tryz.prog 24=true:=by kernel_rfl
@[go_sem] theorem aSr:aB Tryz.prog 25=true:=by kernel_rfl
@[go_sem] theorem eZ:aB Tryz.prog 26=true:=by kernel_rfl
@[go_sem] theorem aSs:aB Tryz.prog 27=true:=by kernel_rfl
@[go_sem] theorem wB:aB Tryz.prog 28=true:=by kernel_rfl
@[go_sem] theorem fJ:aB Tryz.prog 29=true:=by kernel_rfl
@[go_sem] theorem wC:aB Tryz.prog 30=true:=by kernel_rfl
@[go_sem] theorem aBy:aB Tryz.prog 31=true:=by kernel_rfl
@[go_sem] theorem aGE:aB Tryz.prog 32=true:=by kernel_rfl
@[go_sem] theorem aGF:aB Tryz.prog 33=true:=by kernel_rfl
@[go_sem] theorem aGG:aB Tryz.prog 34=true:=by kernel_rfl
@[go_sem] theorem aGH:aB Tryz.prog 35=true:=by kernel_rfl
@[go_sem] theorem aGI:aB Tryz.prog 36=true:=by kernel_rfl
@[go_sem] theorem nV:aB Tryz.prog 37=true:=by kernel_rfl
@[go_sem] theorem aBz:aB Tryz.prog 38=true:=by kernel_rfl
@[go_sem] theorem aSt:aB Tryz.prog 39=true:=by kernel_rfl
@[go_sem] theorem aSu:aB Tryz.prog 40=true:=by kernel_rfl
@[go_sem] theorem aR:aB Tryz.prog 41=true:=by kernel_rfl
@[go_sem] theorem aBA:aB Tryz.prog 42=true:=by kernel_rfl
@[go_sem] theorem aSv:aB Tryz.prog 43=true:=by kernel_rfl
@[go_sem] theorem aSw:aB Tryz.prog 44=true:=by kernel_rfl
@[go_sem] theorem aSx:aB Tryz.prog 45=true:=by kernel_rfl
@[go_sem] theorem aSy:aB Tryz.prog 46=true:=by kernel_rfl
@[go_sem] theorem aSz:aB Tryz.prog 47=true:=by kernel_rfl
@[go_sem] theorem aSA:aB Tryz.prog 48=true:=by kernel_rfl
@[go_sem] theorem aSB:aB Tryz.prog 49=true:=by kernel_rfl
@[go_sem] theorem aSC:aB Tryz.prog 50=true:=by kernel_rfl
@[go_sem] theorem aSD:aB Tryz.prog 51=true:=by kernel_rfl
@[go_sem] theorem aSE:aB Tryz.prog 52=true:=by kernel_rfl
@[go_sem] theorem aGJ:aB Tryz.prog 53=true:=by kernel_rfl
@[go_sem] theorem cS:aB Tryz.prog 54=true:=by kernel_rfl
@[go_sem] theorem nW:aB Tryz.prog 55=true:=by kernel_rfl
@[go_sem] theorem aSF:aB Tryz.prog 56=true:=by kernel_rfl
@[go_sem] theorem aSG:aB Tryz.prog 57=true:=by kernel_rfl
@[go_sem] theorem aSH:aB Tryz.prog 58=true:=by kernel_rfl
@[go_sem] theorem lS:aB Tryz.prog 59=true:=by kernel_rfl
@[go_sem] theorem aBB:aB Tryz.prog 60=true:=by kernel_rfl
@[go_sem] theorem aSI:aB Tryz.prog 61=true:=by kernel_rfl
@[go_sem] theorem aSJ:aB Tryz.prog 62=true:=by kernel_rfl
@[go_sem] theorem dA:aB Tryz.prog 63=true:=by kernel_rfl
@[go_sem] theorem wD:aB Tryz.prog 64=true:=by kernel_rfl
@[go_sem] theorem cA:aB Tryz.prog 65=true:=by kernel_rfl
@[go_sem] theorem rG:aB Tryz.prog 66=true:=by kernel_rfl
@[go_sem] theorem aBC:aB Tryz.prog 67=true:=by kernel_rfl
@[go_sem] theorem aGK:aB Tryz.prog 68=true:=by kernel_rfl
@[go_sem] theorem aGL:aB Tryz.prog 69=true:=by kernel_rfl
@[go_sem] theorem aGM:aB Tryz.prog 70=true:=by kernel_rfl
@[go_sem] theorem aGN:aB Tryz.prog 71=true:=by kernel_rfl
@[go_sem] theorem aGO:aB Tryz.prog 72=true:=by kernel_rfl
@[go_sem] theorem aGP:aB Tryz.prog 73=true:=by kernel_rfl
@[go_sem] theorem aGQ:aB Tryz.prog 74=true:=by kernel_rfl
@[go_sem] theorem aGR:aB Tryz.prog 75=true:=by kernel_rfl
@[go_sem] theorem aGS:aB Tryz.prog 76=true:=by kernel_rfl
@[go_sem] theorem aGT:aB Tryz.prog 77=true:=by kernel_rfl
@[go_sem] theorem aGU:aB Tryz.prog 78=true:=by kernel_rfl
@[go_sem] theorem rH:aB Tryz.prog 79=true:=by kernel_rfl
@[go_sem] theorem rI:aB Tryz.prog 80=true:=by kernel_rfl
@[go_sem] theorem aSK:aB Tryz.prog 81=true:=by kernel_rfl
@[go_sem] theorem bO:aB Tryz.prog 82=true:=by kernel_rfl
@[go_sem] theorem wE:aB Tryz.prog 83=true:=by kernel_rfl
@[go_sem] theorem jN:aB Tryz.prog 84=true:=by kernel_rfl
@[go_sem] theorem aSL:aB Tryz.prog 85=true:=by kernel_rfl
@[go_sem] theorem aSM:aB Tryz.prog 86=true:=by kernel_rfl
@[go_sem] theorem aSN:aB Tryz.prog 87=true:=by kernel_rfl
@[go_sem] theorem aSO:aB Tryz.prog 88=true:=by kernel_rfl
@[go_sem] theorem aSP:aB Tryz.prog 89=true:=by kernel_rfl
@[go_sem] theorem aSQ:aB Tryz.prog 90=true:=by kernel_rfl
@[go_sem] theorem aSR:aB Tryz.prog 91=true:=by kernel_rfl
@[go_sem] theorem aSS:aB Tryz.prog 92=true:=by kernel_rfl
@[go_sem] theorem aST:aB Tryz.prog 93=true:=by kernel_rfl
@[go_sem] theorem aSU:aB Tryz.prog 94=true:=by kernel_rfl
@[go_sem] theorem aSV:aB Tryz.prog 95=true:=by kernel_rfl
@[go_sem] theorem aSW:aB Tryz.prog 96=true:=by kernel_rfl
@[go_sem] theorem aSX:aB Tryz.prog 97=true:=by kernel_rfl
@[go_sem] theorem aSY:aB Tryz.prog 98=true:=by kernel_rfl
@[go_sem] theorem aSZ:aB Tryz.prog 99=true:=by kernel_rfl
@[go_sem] theorem lX:aB Tryz.prog 100=true:=by kernel_rfl
@[go_sem] theorem dT:aB Tryz.prog 101=true:=by kernel_rfl
@[go_sem] theorem kK:aB Tryz.prog 102=true:=by kernel_rfl
@[go_sem] theorem cH:aB Tryz.prog 103=true:=by kernel_rfl
@[go_sem] theorem gJ:aB Tryz.prog 104=true:=by kernel_rfl
@[go_sem] theorem aPh:aB Tryz.prog 105=true:=by kernel_rfl
@[go_sem] theorem aPi:aB Tryz.prog 106=true:=by kernel_rfl
@[go_sem] theorem aPj:aB Tryz.prog 107=true:=by kernel_rfl
@[go_sem] theorem aPk:aB Tryz.prog 108=true:=by kernel_rfl
@[go_sem] theorem aPl:aB Tryz.prog 109=true:=by kernel_rfl
@[go_sem] theorem aPm:aB Tryz.prog 110=true:=by kernel_rfl
@[go_sem] theorem aPn:aB Tryz.prog 111=true:=by kernel_rfl
@[go_sem] theorem aPo:aB Tryz.prog 112=true:=by kernel_rfl
@[go_sem] theorem oT:aB Tryz.prog 113=true:=by kernel_rfl
@[go_sem] theorem aPp:aB Tryz.prog 114=true:=by kernel_rfl
@[go_sem] theorem aPq:aB Tryz.prog 115=true:=by kernel_rfl
@[go_sem] theorem aEa:aB Tryz.prog 116=true:=by kernel_rfl
@[go_sem] theorem zX:aB Tryz.prog 117=true:=by kernel_rfl
@[go_sem] theorem eE:aB Tryz.prog 118=true:=by kernel_rfl
@[go_sem] theorem gL:aB Tryz.prog 119=true:=by kernel_rfl
@[go_sem] theorem eF:aB Tryz.prog 120=true:=by kernel_rfl
@[go_sem] theorem aEb:aB Tryz.prog 121=true:=by kernel_rfl
@[go_sem] theorem oU:aB Tryz.prog 122=true:=by kernel_rfl
@[go_sem] theorem bQ:aB Tryz.prog 123=true:=by kernel_rfl
@[go_sem] theorem bN:aB Tryz.prog 124=true:=by kernel_rfl
@[go_sem] theorem aEc:aB Tryz.prog 125=true:=by kernel_rfl
@[go_sem] theorem lY:aB Tryz.prog 126=true:=by kernel_rfl
@[go_sem] theorem aEd:aB Tryz.prog 127=true:=by kernel_rfl
@[go_sem] theorem jH:aB Tryz.prog 128=true:=by kernel_rfl
@[go_sem] theorem zY:aB Tryz.prog 129=true:=by kernel_rfl
@[go_sem] theorem zZ:aB Tryz.prog 130=true:=by kernel_rfl
@[go_sem] theorem aAa:aB Tryz.prog 131=true:=by kernel_rfl
@[go_sem] theorem kL:aB Tryz.prog 132=true:=by kernel_rfl
@[go_sem] theorem kM:aB Tryz.prog 133=true:=by kernel_rfl
@[go_sem] theorem aEe:aB Tryz.prog 134=true:=by kernel_rfl
@[go_sem] theorem aEf:aB Tryz.prog 135=true:=by kernel_rfl
@[go_sem] theorem cY:aB Tryz.prog 136=true:=by kernel_rfl
@[go_sem] theorem aEg:aB Tryz.prog 137=true:=by kernel_rfl
@[go_sem] theorem kN:aB Tryz.prog 138=true:=by kernel_rfl
@[go_sem] theorem aAb:aB Tryz.prog 139=true:=by kernel_rfl
@[go_sem] theorem aEh:aB Tryz.prog 140=true:=by kernel_rfl
@[go_sem] theorem kO:aB Tryz.prog 141=true:=by kernel_rfl
@[go_sem] theorem kP:aB Tryz.prog 142=true:=by kernel_rfl
@[go_sem] theorem aAc:aB Tryz.prog 143=true:=by kernel_rfl
@[go_sem] theorem aEi:aB Tryz.prog 144=true:=by kernel_rfl
@[go_sem] theorem aPr:aB Tryz.prog 145=true:=by kernel_rfl
@[go_sem] theorem aPs:aB Tryz.prog 146=true:=by kernel_rfl
@[go_sem] theorem aPt:aB Tryz.prog 147=true:=by kernel_rfl
@[go_sem] theorem aPu:aB Tryz.prog 148=true:=by kernel_rfl
@[go_sem] theorem aPv:aB Tryz.prog 149=true:=by kernel_rfl
@[go_sem] theorem aPw:aB Tryz.prog 150=true:=by kernel_rfl
@[go_sem] theorem aPx:aB Tryz.prog 151=true:=by kernel_rfl
@[go_sem] theorem aPy:aB Tryz.prog 152=true:=by kernel_rfl
@[go_sem] theorem aPz:aB Tryz.prog 153=true:=by kernel_rfl
@[go_sem] theorem aPA:aB Tryz.prog 154=true:=by kernel_rfl
@[go_sem] theorem aPB:aB Tryz.prog 155=true:=by kernel_rfl
@[go_sem] theorem aPC:aB Tryz.prog 156=true:=by kernel_rfl
@[go_sem] theorem aEj:aB Tryz.prog 157=true:=by kernel_rfl
@[go_sem] theorem sL:aB Tryz.prog 158=true:=by kernel_rfl
@[go_sem] theorem aAd:aB Tryz.prog 159=true:=by kernel_rfl
@[go_sem] theorem aAe:aB Tryz.prog 160=true:=by kernel_rfl
@[go_sem] theorem aPD:aB Tryz.prog 161=true:=by kernel_rfl
@[go_sem] theorem aPE:aB Tryz.prog 162=true:=by kernel_rfl
@[go_sem] theorem aPF:aB Tryz.prog 163=true:=by kernel_rfl
@[go_sem] theorem cU:aB Tryz.prog 164=true:=by kernel_rfl
@[go_sem] theorem aEk:aB Tryz.prog 165=true:=by kernel_rfl
@[go_sem] theorem aPG:aB Tryz.prog 166=true:=by kernel_rfl
@[go_sem] theorem aEl:aB Tryz.prog 167=true:=by kernel_rfl
@[go_sem] theorem aEm:aB Tryz.prog 168=true:=by kernel_rfl
@[go_sem] theorem aAf:aB Tryz.prog 169=true:=by kernel_rfl
@[go_sem] theorem oV:aB Tryz.prog 170=true:=by kernel_rfl
@[go_sem] theorem aAg:aB Tryz.prog 171=true:=by kernel_rfl
@[go_sem] theorem aAh:aB Tryz.prog 172=true:=by kernel_rfl
@[go_sem] theorem fQ:aB Tryz.prog 173=true:=by kernel_rfl
@[go_sem] theorem cI:aB Tryz.prog 174=true:=by kernel_rfl
@[go_sem] theorem sM:aB Tryz.prog 175=true:=by kernel_rfl
@[go_sem] theorem gN:aB Tryz.prog 176=true:=by kernel_rfl
@[go_sem] theorem aAi:aB Tryz.prog 177=true:=by kernel_rfl
@[go_sem] theorem sN:aB Tryz.prog 178=true:=by kernel_rfl
@[go_sem] theorem aEn:aB Tryz.prog 179=true:=by kernel_rfl
@[go_sem] theorem sO:aB Tryz.prog 180=true:=by kernel_rfl
@[go_sem] theorem aPH:aB Tryz.prog 181=true:=by kernel_rfl
@[go_sem] theorem aPI:aB Tryz.prog 182=true:=by kernel_rfl
@[go_sem] theorem aPJ:aB Tryz.prog 183=true:=by kernel_rfl
@[go_sem] theorem aPK:aB Tryz.prog 184=true:=by kernel_rfl
@[go_sem] theorem aPL:aB Tryz.prog 185=true:=by kernel_rfl
@[go_sem] theorem aPM:aB Tryz.prog 186=true:=by kernel_rfl
@[go_sem] theorem aPN:aB Tryz.prog 187=true:=by kernel_rfl
@[go_sem] theorem lZ:aB Tryz.prog 188=true:=by kernel_rfl
@[go_sem] theorem fB:aB Tryz.prog 189=true:=by kernel_rfl
@[go_sem] theorem gO:aB Tryz.prog 190=true:=by kernel_rfl
@[go_sem] theorem aPO:aB Tryz.prog 191=true:=by kernel_rfl
@[go_sem] theorem aPP:aB Tryz.prog 192=true:=by kernel_rfl
@[go_sem] theorem aPQ:aB Tryz.prog 193=true:=by kernel_rfl
@[go_sem] theorem sQ:aB Tryz.prog 194=true:=by kernel_rfl
@[go_sem] theorem aEo:aB Tryz.prog 195=true:=by kernel_rfl
@[go_sem] theorem sR:aB Tryz.prog 196=true:=by kernel_rfl
@[go_sem] theorem aEp:aB Tryz.prog 197=true:=by kernel_rfl
@[go_sem] theorem sT:aB Tryz.prog 198=true:=by kernel_rfl
@[go_sem] theorem aAj:aB Tryz.prog 199=true:=by kernel_rfl
@[go_sem] theorem aAk:aB Tryz.prog 200=true:=by kernel_rfl
@[go_sem] theorem iJ:aB Tryz.prog 201=true:=by kernel_rfl
@[go_sem] theorem sU:aB Tryz.prog 202=true:=by kernel_rfl
@[go_sem] theorem aEr:aB Tryz.prog 203=true:=by kernel_rfl
@[go_sem] theorem mA:aB Tryz.prog 204=true:=by kernel_rfl
@[go_sem] theorem aAl:aB Tryz.prog 205=true:=by kernel_rfl
@[go_sem] theorem gP:aB Tryz.prog 206=true:=by kernel_rfl
@[go_sem] theorem sV:aB Tryz.prog 207=true:=by kernel_rfl
@[go_sem] theorem aPR:aB Tryz.prog 208=true:=by kernel_rfl
@[go_sem] theorem aPS:aB Tryz.prog 209=true:=by kernel_rfl
@[go_sem] theorem aPT:aB Tryz.prog 210=true:=by kernel_rfl
@[go_sem] theorem aPU:aB Tryz.prog 211=true:=by kernel_rfl
@[go_sem] theorem aPV:aB Tryz.prog 212=true:=by kernel_rfl
@[go_sem] theorem aPW:aB Tryz.prog 213=true:=by kernel_rfl
@[go_sem] theorem aPX:aB Tryz.prog 214=true:=by kernel_rfl
@[go_sem] theorem sW:aB Tryz.prog 215=true:=by kernel_rfl
@[go_sem] theorem aAm:aB Tryz.prog 216=true:=by kernel_rfl
@[go_sem] theorem aEs:aB Tryz.prog 217=true:=by kernel_rfl
@[go_sem] theorem aEt:aB Tryz.prog 218=true:=by kernel_rfl
@[go_sem] theorem aEu:aB Tryz.prog 219=true:=by kernel_rfl
@[go_sem] theorem aEv:aB Tryz.prog 220=true:=by kernel_rfl
@[go_sem] theorem aEw:aB Tryz.prog 221=true:=by kernel_rfl
@[go_sem] theorem aEx:aB Tryz.prog 222=true:=by kernel_rfl
@[go_sem] theorem aEy:aB Tryz.prog 223=true:=by kernel_rfl
@[go_sem] theorem aPY:aB Tryz.prog 224=true:=by kernel_rfl
@[go_sem] theorem aEz:aB Tryz.prog 225=true:=by kernel_rfl
@[go_sem] theorem sX:aB Tryz.prog 226=true:=by kernel_rfl
@[go_sem] theorem sY:aB Tryz.prog 227=true:=by kernel_rfl
@[go_sem] theorem kQ:aB Tryz.prog 228=true:=by kernel_rfl
@[go_sem] theorem aPZ:aB Tryz.prog 229=true:=by kernel_rfl
@[go_sem] theorem aEA:aB Tryz.prog 230=true:=by kernel_rfl
@[go_sem] theorem aEB:aB Tryz.prog 231=true:=by kernel_rfl
@[go_sem] theorem kR:aB Tryz.prog 232=true:=by kernel_rfl
@[go_sem] theorem aEC:aB Tryz.prog 233=true:=by kernel_rfl
@[go_sem] theorem dU:aB Tryz.prog 234=true:=by kernel_rfl
@[go_sem] theorem aP0:aB Tryz.prog 235=true:=by kernel_rfl
@[go_sem] theorem aP1:aB Tryz.prog 236=true:=by kernel_rfl
@[go_sem] theorem aP2:aB Tryz.prog 237=true:=by kernel_rfl
@[go_sem] theorem aAn:aB Tryz.prog 238=true:=by kernel_rfl
@[go_sem] theorem aED:aB Tryz.prog 239=true:=by kernel_rfl
@[go_sem] theorem aEE:aB Tryz.prog 240=true:=by kernel_rfl
@[go_sem] theorem sZ:aB Tryz.prog 241=true:=by kernel_rfl
@[go_sem] theorem tA:aB Tryz.prog 242=true:=by kernel_rfl
@[go_sem] theorem aP3:aB Tryz.prog 243=true:=by kernel_rfl
@[go_sem] theorem aP4:aB Tryz.prog 244=true:=by kernel_rfl
@[go_sem] theorem tB:aB Tryz.prog 246=true:=by kernel_rfl
@[go_sem] theorem tC:aB Tryz.prog 247=true:=by kernel_rfl
@[go_sem] theorem tD:aB Tryz.prog 248=true:=by kernel_rfl
@[go_sem] theorem aP5:aB Tryz.prog 249=true:=by kernel_rfl
@[go_sem] theorem tE:aB Tryz.prog 250=true:=by kernel_rfl
@[go_sem] theorem aP6:aB Tryz.prog 252=true:=by kernel_rfl
@[go_sem] theorem aP7:aB Tryz.prog 253=true:=by kernel_rfl
@[go_sem] theorem aP8:aB Tryz.prog 255=true:=by kernel_rfl
@[go_sem] theorem tF:aB Tryz.prog 271=true:=by kernel_rfl
@[go_sem] theorem tG:aB Tryz.prog 273=true:=by kernel_rfl
@[go_sem] theorem aP9:aB Tryz.prog 280=true:=by kernel_rfl
attribute [go_sem] Tryz.underlying0 Tryz.underlying2 Tryz.underlying3 Tryz.underlying4 Tryz.underlying5 Tryz.underlying6 Tryz.underlying7 Tryz.underlying9 Tryz.underlying12 Tryz.underlying13 Tryz.underlying21 Tryz.underlying22 Tryz.underlying23 Tryz.underlying24 Tryz.underlying25 Tryz.underlying27 Tryz.underlying28 Tryz.underlying29 Tryz.underlying31 Tryz.underlying32 Tryz.underlying33 Tryz.underlying36 Tryz.underlying37 Tryz.underlying39 Tryz.underlying40 Tryz.underlying41 Tryz.underlying44 Tryz.underlying47 Tryz.underlying48 Tryz.underlying49 Tryz.underlying50 Tryz.underlying53 Tryz.underlying55 Tryz.underlying62 Tryz.underlying64 Tryz.underlying66 Tryz.underlying67 Tryz.underlying77 Tryz.underlying80 Tryz.underlying83 Tryz.underlying85 Tryz.underlying87 Tryz.underlying88 Tryz.underlying89 Tryz.underlying90 Tryz.underlying97 Tryz.underlying98 Tryz.underlying99 Tryz.underlying100 Tryz.underlying101 Tryz.underlying103 Tryz.underlying105 Tryz.underlying106 Tryz.underlying108 Tryz.underlying111 Tryz.underlying116 Tryz.underlying118 Tryz.underlying120 Tryz.underlying123 Tryz.underlying125 Tryz.underlying127 Tryz.underlying129 Tryz.underlying130 Tryz.underlying135 Tryz.underlying136 Tryz.underlying139 Tryz.underlying141 Tryz.underlying143 Tryz.underlying144 Tryz.underlying145 Tryz.underlying147 Tryz.underlying148 Tryz.underlying152 Tryz.underlying155 Tryz.underlying158 Tryz.underlying160 Tryz.underlying165 Tryz.underlying167 Tryz.underlying172 Tryz.underlying180 Tryz.underlying181 Tryz.underlying184 Tryz.underlying185 Tryz.underlying193 Tryz.underlying194 Tryz.underlying200 Tryz.underlying203 Tryz.underlying210 Tryz.underlying214 Tryz.underlying216 Tryz.underlying218 Tryz.underlying219 Tryz.underlying220 Tryz.underlying227 Tryz.underlying229 Tryz.underlying236 Tryz.underlying238 Tryz.underlying240 Tryz.underlying242 Tryz.underlying247 Tryz.underlying253 Tryz.underlying257 Tryz.underlying259 Tryz.underlying263 Tryz.underlying264 Tryz.underlying265 Tryz.underlying275 Tryz.underlying276 Tryz.underlying282 Tryz.underlying284 Tryz.underlying285 Tryz.underlying288 Tryz.underlying289 Tryz.underlying291 Tryz.underlying297 Tryz.underlying301 Tryz.underlying303 Tryz.underlying305 Tryz.underlying306 Tryz.underlying307 Tryz.ntmps2 Tryz.results2 Tryz.ntmps3 Tryz.results3 Tryz.ntmps4 Tryz.results4 Tryz.ntmps5 Tryz.results5 Tryz.ntmps6 Tryz.results6 Tryz.ntmps7 Tryz.results7 Tryz.ntmps8 Tryz.results8 Tryz.ntmps9 Tryz.results9 Tryz.ntmps10 Tryz.results10 Tryz.ntmps11 Tryz.results11 Tryz.ntmps12 Tryz.results12 Tryz.ntmps13 Tryz.results13 Tryz.ntmps14 Tryz.results14 Tryz.ntmps15 Tryz.results15 Tryz.ntmps16 Tryz.results16 Tryz.ntmps17 Tryz.results17 Tryz.ntmps18 Tryz.results18 Tryz.ntmps19 Tryz.results19 Tryz.ntmps20 Tryz.results20 Tryz.ntmps21 Tryz.results21 Tryz.ntmps22 Tryz.results22 Tryz.ntmps23 Tryz.results23 Tryz.ntmps24 Tryz.results24 Tryz.ntmps25 Tryz.results25 Tryz.ntmps26 Tryz.results26 Tryz.ntmps27 Tryz.results27 Tryz.ntmps28 Tryz.results28 Tryz.ntmps29 Tryz.results29 Tryz.ntmps30 Tryz.results30 Tryz.ntmps31 Tryz.results31 Tryz.ntmps32 Tryz.results32 Tryz.ntmps33 Tryz.results33 Tryz.ntmps34 Tryz.results34 Tryz.ntmps35 Tryz.results35 Tryz.ntmps36 Tryz.results36 Tryz.ntmps37 Tryz.results37 Tryz.ntmps38 Tryz.results38 Tryz.ntmps39 Tryz.results39 Tryz.ntmps40 Tryz.results40 Tryz.ntmps41 Tryz.results41 Tryz.ntmps42 Tryz.results42 Tryz.ntmps43 Tryz.results43 Tryz.ntmps44 Tryz.results44 Tryz.ntmps45 Tryz.results45 Tryz.ntmps46 Tryz.results46 Tryz.ntmps47 Tryz.results47 Tryz.ntmps48 Tryz.results48 Tryz.ntmps49 Tryz.results49 Tryz.ntmps50 Tryz.results50 Tryz.ntmps51 Tryz.results51 Tryz.ntmps52 Tryz.results52 Tryz.ntmps53 Tryz.results53 Tryz.ntmps54 Tryz.results54 Tryz.ntmps55 Tryz.results55 Tryz.ntmps56 Tryz.results56 Tryz.ntmps57 Tryz.results57 Tryz.ntmps58 Tryz.results58 Tryz.ntmps59 Tryz.results59 Tryz.ntmps60 Tryz.results60 Tryz.ntmps61 Tryz.results61 Tryz.ntmps62 Tryz.results62 Tryz.ntmps63 Tryz.results63 Tryz.ntmps64 Tryz.results64 Tryz.ntmps65 Tryz.results65 Tryz.ntmps66 Tryz.results66 Tryz.ntmps67 Tryz.results67 Tryz.ntmps68 Tryz.results68 Tryz.ntmps69 Tryz.results69 Tryz.ntmps70 Tryz.results70 Tryz.ntmps71 Tryz.results71 Tryz.ntmps72 Tryz.results72 Tryz.ntmps73 Tryz.results73 Tryz.ntmps74 Tryz.results74 Tryz.ntmps75 Tryz.results75 Tryz.ntmps76 Tryz.results76 Tryz.ntmps77 Tryz.results77 Tryz.ntmps78 Tryz.results78 Tryz.ntmps79 Tryz.results79 Tryz.ntmps80 Tryz.results80 Tryz.ntmps81 Tryz.results81 Tryz.ntmps82 Tryz.results82 Tryz.ntmps83 Tryz.results83 Tryz.ntmps84 Tryz.results84 Tryz.ntmps85 Tryz.results85 Tryz.ntmps86 Tryz.results86 Tryz.ntmps87 Tryz.results87 Tryz.ntmps88 Tryz.results88 Tryz.ntmps89 Tryz.results89 Tryz.ntmps90 Tryz.results90 Tryz.ntmps91 Tryz.results91 Tryz.ntmps92 Tryz.results92 Tryz.ntmps93 Tryz.results93 Tryz.ntmps94 Tryz.results94 Tryz.ntmps95 Tryz.results95 Tryz.ntmps96 Tryz.results96 Tryz.ntmps97 Tryz.results97 Tryz.ntmps98 Tryz.results98 Tryz.ntmps99 Tryz.results99 Tryz.ntmps100 Tryz.results100 Tryz.ntmps101 Tryz.results101 Tryz.ntmps102 Tryz.results102 Tryz.ntmps103 Tryz.results103 Tryz.ntmps104 Tryz.results104 Tryz.ntmps105 Tryz.results105 Tryz.ntmps106 Tryz.results106 Tryz.ntmps107 Tryz.results107 Tryz.ntmps108 Tryz.results108 Tryz.ntmps109 Tryz.results109 Tryz.ntmps110 Tryz.results110 Tryz.ntmps111 Tryz.results111 Tryz.ntmps112 Tryz.results112 Tryz.ntmps113 Tryz.results113 Tryz.ntmps114 Tryz.results114 Tryz.ntmps115 Tryz.results115 Tryz.ntmps116 Tryz.results116 Tryz.ntmps117 Tryz.results117 Tryz.ntmps118 Tryz.results118 Tryz.ntmps119 Tryz.results119 Tryz.ntmps120 Tryz.results120 Tryz.ntmps121 Tryz.results121 Tryz.ntmps122 Tryz.results122 Tryz.ntmps123 Tryz.results123 Tryz.ntmps124 Tryz.results124 Tryz.ntmps125 Tryz.results125 Tryz.ntmps126 Tryz.results126 Tryz.ntmps127 Tryz.results127 Tryz.ntmps128 Tryz.results128 Tryz.ntmps129 Tryz.results129 Tryz.ntmps130 Tryz.results130 Tryz.ntmps131 Tryz.results131 Tryz.ntmps132 Tryz.results132 Tryz.ntmps133 Tryz.results133 Tryz.ntmps134 Tryz.results134 Tryz.ntmps135 Tryz.results135 Tryz.ntmps136 Tryz.results136 Tryz.ntmps137 Tryz.results137 Tryz.ntmps138 Tryz.results138 Tryz.ntmps139 Tryz.results139 Tryz.ntmps140 Tryz.results140 Tryz.ntmps141 Tryz.results141 Tryz.ntmps142 Tryz.results142 Tryz.ntmps143 Tryz.results143 Tryz.ntmps144 Tryz.results144 Tryz.ntmps145 Tryz.results145 Tryz.ntmps146 Tryz.results146 Tryz.ntmps147 Tryz.results147 Tryz.ntmps148 Tryz.results148 Tryz.ntmps149 Tryz.results149 Tryz.ntmps150 Tryz.results150 Tryz.ntmps151 Tryz.results151 Tryz.ntmps152 Tryz.results152 Tryz.ntmps153 Tryz.results153 Tryz.ntmps154 Tryz.results154 Tryz.ntmps155 Tryz.results155 Tryz.ntmps156 Tryz.results156 Tryz.ntmps157 Tryz.results157 Tryz.ntmps158 Tryz.results158 Tryz.ntmps159 Tryz.results159 Tryz.ntmps160 Tryz.results160 Tryz.ntmps161 Tryz.results161 Tryz.ntmps162 Tryz.results162 Tryz.ntmps163 Tryz.results163 Tryz.ntmps164 Tryz.results164 Tryz.ntmps165 Tryz.results165 Tryz.ntmps166 Tryz.results166 Tryz.ntmps167 Tryz.results167 Tryz.ntmps168 Tryz.results168 Tryz.ntmps169 Tryz.results169 Tryz.ntmps170 Tryz.results170 Tryz.ntmps171 Tryz.results171 Tryz.ntmps172 Tryz.results172 Tryz.ntmps173 Tryz.results173 Tryz.ntmps174 Tryz.results174 Tryz.ntmps175 Tryz.results175 Tryz.ntmps176 Tryz.results176 Tryz.ntmps177 Tryz.results177 Tryz.ntmps178 Tryz.results178 Tryz.ntmps179 Tryz.results179 Tryz.ntmps180 Tryz.results180 Tryz.ntmps181 Tryz.results181 Tryz.ntmps182 Tryz.results182 Tryz.ntmps183 Tryz.results183 Tryz.ntmps184 Tryz.results184 Tryz.ntmps185 Tryz.results185 Tryz.ntmps186 Tryz.results186 Tryz.ntmps187 Tryz.results187 Tryz.ntmps188 Tryz.results188 Tryz.ntmps189 Tryz.results189 Tryz.ntmps190 Tryz.results190 Tryz.ntmps191 Tryz.results191 Tryz.ntmps192 Tryz.results192 Tryz.ntmps193 Tryz.results193 Tryz.ntmps194 Tryz.results194 Tryz.ntmps195 Tryz.results195 Tryz.ntmps196 Tryz.results196 Tryz.ntmps197 Tryz.results197 Tryz.ntmps198 Tryz.results198 Tryz.ntmps199 Tryz.results199 Tryz.ntmps200 Tryz.results200 Tryz.ntmps201 Tryz.results201 Tryz.ntmps202 Tryz.results202 Tryz.ntmps203 Tryz.results203 Tryz.ntmps204 Tryz.results204 Tryz.ntmps205 Tryz.results205 Tryz.ntmps206 Tryz.results206 Tryz.ntmps207 Tryz.results207 Tryz.ntmps208 Tryz.results208 Tryz.ntmps209 Tryz.results209 Tryz.ntmps210 Tryz.results210 Tryz.ntmps211 Tryz.results211 Tryz.ntmps212 Tryz.results212 Tryz.ntmps213 Tryz.results213 Tryz.ntmps214 Tryz.results214 Tryz.ntmps215 Tryz.results215 Tryz.ntmps216 Tryz.results216 Tryz.ntmps217 Tryz.results217 Tryz.ntmps218 Tryz.results218 Tryz.ntmps219 Tryz.results219 Tryz.ntmps220 Tryz.results220 Tryz.ntmps221 Tryz.results221 Tryz.ntmps222 Tryz.results222 Tryz.ntmps223 Tryz.results223 Tryz.ntmps224 Tryz.results224 Tryz.ntmps225 Tryz.results225 Tryz.ntmps226 Tryz.results226 Tryz.ntmps227 Tryz.results227 Tryz.ntmps228 Tryz.results228 Tryz.ntmps229 Tryz.results229 Tryz.ntmps230 Tryz.results230 Tryz.ntmps231 Tryz.results231 Tryz.ntmps232 Tryz.results232 Tryz.ntmps233 Tryz.results233 Tryz.ntmps234 Tryz.results234 Tryz.ntmps235 Tryz.results235 Tryz.ntmps236 Tryz.results236 Tryz.ntmps237 Tryz.results237 Tryz.ntmps238 Tryz.results238 Tryz.ntmps239 Tryz.results239 Tryz.ntmps240 Tryz.results240 Tryz.ntmps241 Tryz.results241 Tryz.ntmps242 Tryz.results242 Tryz.ntmps243 Tryz.results243 Tryz.ntmps244 Tryz.results244 Tryz.ntmps246 Tryz.results246 Tryz.ntmps247 Tryz.results247 Tryz.ntmps248 Tryz.results248 Tryz.ntmps249 Tryz.results249 Tryz.ntmps250 Tryz.results250 Tryz.ntmps252 Tryz.results252 Tryz.ntmps253 Tryz.results253 Tryz.ntmps255 Tryz.results255 Tryz.ntmps271 Tryz.results271 Tryz.ntmps273 Tryz.results273 Tryz.ntmps280 Tryz.results280
end Go.Proofs.YthhdnjiodklmmaaGreatDoor
/- The abstract machine: what a row hands in, ars abstract values; and a function that leaves the heap alone, ars a step of a row. No condition. -/
namespace Go.Aw
open Go Go.ChangeShapes Go.WideShapes Go.ChangeAt Go.RowKit
variable {P:Program}
def hQ(P:Program)(t:TypeId):Bool:=
 match P.underlying t with
 |some (.struct _)|some (.array _ _)=>true
 |_=>false
def mkA(P:Program)(t:TypeId)(ys:List AV):AV:=if hQ P t=true then .agg ys else ys.headD .top
def aLO(P:Program):Nat→List Field→Bool
 |_,[]=>true
 |off,f::fs=>(f.offset==off)&&aLO P (off+P.cellsOf f.type) fs
def mB(P:Program):Nat→List Field→Nat
 |off,[]=>off
 |off,f::fs=>mB P (off+P.cellsOf f.type) fs
def kindB(P:Program)(t:TypeId):Bool:=
 match P.underlying t with
 |some .bool|some (.int _)|some .string=>true
 |some (.slice e)=>(P.cellsOf e !=0)&&(hQ P e||(P.cellsOf e==1))
 |some (.struct fs)=>aLO P 0 fs.toList&&(mB P 0 fs.toList==P.cellsOf t)
 |_=>false
mutual
inductive Sh (P:Program):TypeId→List AV→Prop
 |bool (t:TypeId) (b:Bool) (h:P.underlying t=some .bool):Sh P t [.bool b]
 |int (t:TypeId) (k:IntKind) (n:Int) (h:P.underlying t=some (.int k)) (hw:(Lit.int k n).wf=true):Sh P t [.int k n]
 |str (t:TypeId) (s:List UInt8) (h:P.underlying t=some .string) (hl:s.length≤maxLen):Sh P t [.str s]
 |slice (t e:TypeId) (zs:List (List AV)) (h:P.underlying t=some (.slice e)) (hl:zs.length≤maxLen) (hz:∀z∈zs,Sh P e z) (hc:∀z∈zs,z.length=P.cellsOf e):Sh P t [.sl false (zs.map (mkA P e))]
 |struct (t:TypeId) (fs:Array Field) (ys:List AV) (h:P.underlying t=some (.struct fs)) (hf:ShF P fs.toList ys):Sh P t ys
 |other (t:TypeId) (ys:List AV) (h:kindB P t=false) (hy:∀y∈ys,y=.top):Sh P t ys
inductive ShF (P:Program):List Field→List AV→Prop
 |nil:ShF P [] []
 |cons (f:Field) (fs:List Field) (z ys:List AV) (h:Sh P f.type z) (hs:ShF P fs ys):ShF P (f::fs) (z++ys)
end
theorem aEF{t:TypeId}{k:IntKind}{ys:List AV}(ht:P.underlying t=some (.int k))(h:Sh P t ys):∃n,ys=[.int k n]∧(Lit.int k n).wf=true:=by
 cases h with
 |bool _ _ h=>rw[ht]at h;cases h
 |int _ _ n h hw=>rw[ht]at h;cases h;exact⟨n,rfl,hw⟩
 |str _ _ h=>rw[ht]at h;cases h
 |slice _ _ _ h=>rw[ht]at h;cases h
 |struct _ _ _ h=>rw[ht]at h;cases h
 |other _ _ h _=>rw[kindB,ht]at h;cases h
theorem aCd{t:TypeId}{ys:List AV}(ht:P.underlying t=some .string)(h:Sh P t ys):∃s,ys=[.str s]∧s.length≤maxLen:=by
 cases h with
 |bool _ _ h=>rw[ht]at h;cases h
 |int _ _ _ h=>rw[ht]at h;cases h
 |str _ s _ hl=>exact⟨s,rfl,hl⟩
 |slice _ _ _ h=>rw[ht]at h;cases h
 |struct _ _ _ h=>rw[ht]at h;cases h
 |other _ _ h _=>rw[kindB,ht]at h;cases h
theorem aIL{t e:TypeId}{ys:List AV}(ht:P.underlying t=some (.slice e))(hk:kindB P t=true)(h:Sh P t ys):
  ∃zs:List (List AV),ys=[.sl false (zs.map (mkA P e))]∧zs.length≤maxLen∧∀z∈zs,Sh P e z:=by
 cases h with
 |bool _ _ h=>rw[ht]at h;cases h
 |int _ _ _ h=>rw[ht]at h;cases h
 |str _ _ h=>rw[ht]at h;cases h
 |slice _ _ zs h hl hz=>rw[ht]at h;cases h;exact⟨zs,rfl,hl,hz⟩
 |struct _ _ _ h=>rw[ht]at h;cases h
 |other _ _ h _=>rw[hk]at h;cases h
theorem aGV{t:TypeId}{fs:Array Field}{ys:List AV}(ht:P.underlying t=some (.struct fs))(hk:kindB P t=true)(h:Sh P t ys):ShF P fs.toList ys:=by
 cases h with
 |bool _ _ h=>rw[ht]at h;cases h
 |int _ _ _ h=>rw[ht]at h;cases h
 |str _ _ h=>rw[ht]at h;cases h
 |slice _ _ _ h=>rw[ht]at h;cases h
 |struct _ _ _ h hf=>rw[ht]at h;cases h;exact hf
 |other _ _ h=>rw[hk]at h;cases h
theorem aLP{ys:List AV}(h:ShF P [] ys):ys=[]:=by cases h;rfl
theorem pX{f:Field}{fs:List Field}{ys:List AV}(h:ShF P (f::fs) ys):∃z zs,ys=z++zs∧Sh P f.type z∧ShF P fs zs:=by
 cases h with
 |cons _ _ z zs h hs=>exact⟨z,zs,rfl,h,hs⟩
def rW(c:Ctx)(ys:List AV)(cs:List Value):Prop:=ys.length=cs.length∧∀(i:Nat) (y:AV) (v:Value),ys[i]?=some y→cs[i]?=some v→Rep c y v
theorem nX{c:Ctx}{y:AV}{v:Value}(h:Rep c y v):rW c [y] [v]:=by
 refine⟨rfl,fun i x u hx hu=>?_⟩
 cases i with
 |zero=>simp at hx hu;subst hx;subst hu;exact h
 |succ i=>simp at hx
theorem aIM{c:Ctx}(cs:List Value):rW c (cs.map fun _=>.top) cs:=by
 refine⟨by simp,fun i x u hx _=>?_⟩
 rw[List.getElem?_map]at hx
 obtain⟨_,_,rfl⟩:=Option.map_eq_some_iff.1 hx
 exact .top _
theorem aC6{c:Ctx}{y z:List AV}{a b:List Value}(h:rW c y a)(k:rW c z b):rW c (y++z) (a++b):=by
 refine⟨by simp[h.1,k.1],fun i x u hx hu=>?_⟩
 by_cases hi:i<y.length
 ·rw[List.getElem?_append_left hi]at hx
  rw[List.getElem?_append_left (by rw[←h.1];exact hi)]at hu
  exact h.2 i x u hx hu
 ·rw[List.getElem?_append_right (by omega)]at hx
  rw[List.getElem?_append_right (by rw[←h.1];omega),←h.1]at hu
  exact k.2 _ x u hx hu
theorem aEG{w:World}{a:Addr}{v:Value}(h:w.cell? a=some v):a.block<w.heap.size:=by
 unfold World.cell? at h
 cases hb:w.heap[a.block]? with
 |none=>rw[hb]at h;simp at h
 |some o=>exact(Array.getElem?_eq_some_iff.1 hb).1
section
variable {H:Type} {enc:TypeId×Value→H} {W:World} {base:Nat} {sp:Nat→Bool} {held:Bool}
theorem aQa{k:IntKind}{n:Int}(h:(Lit.int k n).wf=true):inR k n:=by
 have h2:(decide (k.min≤n)&&decide (n≤k.max))=true:=h
 simpa[inR]using h2
inductive LeA (n:Nat):AV→Prop
 |int (k m):LeA n (.int k m)
 |bool (b):LeA n (.bool b)
 |str (s) (h:s.length≤n):LeA n (.str s)
 |agg (cs:List AV) (h:∀x∈cs,LeA n x):LeA n (.agg cs)
 |sl (f) (es:List AV) (hl:es.length≤n) (h:∀x∈es,LeA n x):LeA n (.sl f es)
 |top:LeA n .top
theorem LeA.mono{n m:Nat}{x:AV}(h:LeA n x)(hm:n≤m):LeA m x:=by
 induction h with
 |int=>exact .int _ _
 |bool=>exact .bool _
 |str s h=>exact .str s (Nat.le_trans h hm)
 |agg cs _ ih=>exact .agg cs ih
 |sl f es hl _ ih=>exact .sl f es (Nat.le_trans hl hm) ih
 |top=>exact .top
theorem LeA.mk{n:Nat}{P:Program}{t:TypeId}{ys:List AV}(h:∀y∈ys,LeA n y):LeA n (mkA P t ys):=by
 unfold mkA
 split
 ·exact .agg ys h
 ·cases ys with
  |nil=>exact .top
  |cons y ys=>exact h y (by simp)
mutual
def jO{H:Type}:DataW H→Nat
 |.lit (.string bytes)=>bytes.length+1
 |.lit _=>1
 |.nil=>1
 |.ptr d=>jO d+1
 |.slice elems spare=>jV elems+jV spare+1
 |.agg parts=>jV parts+1
 |.iface _ d=>jO d+1
 |.map entries=>uD entries+1
 |.held _=>1
def jV{H:Type}:List (DataW H)→Nat
 |[]=>0
 |d::r=>jO d+jV r
def uD{H:Type}:List (Lit×DataW H)→Nat
 |[]=>0
 |x::r=>aEH x+uD r
def aEH{H:Type}:Lit×DataW H→Nat
 |(.string bytes,d)=>bytes.length+jO d+1
 |(_,d)=>jO d+1
end
theorem aGW{H:Type}(d:DataW H):1≤jO d:=by
 cases d with
 |lit l=>cases l<;>simp[jO]
 |_=>simp[jO]
theorem aGX{H:Type}(l:List (DataW H)):l.length≤jV l:=by
 induction l with
 |nil=>simp[jV]
 |cons x r ih=>have:=aGW x;simp only[jV,List.length_cons];omega
theorem aBD{H:Type}{d:DataW H}{l:List (DataW H)}(h:d∈l):jO d≤jV l:=by
 induction l with
 |nil=>cases h
 |cons x r ih=>
  simp only[jV]
  cases h with
  |head=>omega
  |tail _ h=>have:=ih h;omega
theorem aIN{c:Ctx}(hw:c.w=W)(hst:∀b,b<W.heap.size→c.stable b):∀(fuel:Nat) (t:TypeId) (cs:List Value) (x:DataW H×List MemPlace),DataW.trod enc P W base sp held fuel t cs=some x→
  ∃ys,Sh P t ys∧rW c ys cs∧∀y∈ys,LeA (jO x.1) y:=by
 intro fuel
 induction fuel with
 |zero=>intro t cs x h;simp[DataW.trod]at h
 |succ fuel ih=>
  intro t cs x h
  cases hk:kindB P t with
  |false=>exact⟨_,.other t _ hk (by simp),aIM cs,fun y hy=>by simp at hy;rw[←hy.2];exact .top⟩
  |true=>
   have hk':=hk
   unfold kindB at hk
   split at hk
   ·rename_i hu
    obtain⟨b,rfl, -⟩:=DataW.trod_bool hu h
    exact⟨_,.bool t b hu,nX (.bool b),fun y hy=>by simp at hy;subst hy;exact .bool _⟩
   ·rename_i k hu
    obtain⟨n,rfl, -,hwf⟩:=DataW.trod_int hu h
    exact⟨_,.int t k n hu hwf,nX (.int k n (aQa hwf)),fun y hy=>by simp at hy;subst hy;exact .int _ _⟩
   ·rename_i hu
    obtain⟨s,rfl,hx,hl⟩:=DataW.trod_string hu h
    refine⟨_,.str t s.data.toList hu (by simpa using hl),nX ?_,fun y hy=>by simp at hy;subst hy;exact .str _ (by rw[hx];simp[jO])⟩
    have:=Rep.str (c:=c) s.data.toList (by simpa[maxLen]using hl)
    simpa using this
   ·rename_i e hu
    rw[Bool.and_eq_true]at hk
    have he:P.cellsOf e≠0:=by simpa using hk.1
    have he1:hQ P e=true∨P.cellsOf e=1:=by simpa using hk.2
    rcases DataW.trod_slice hu h with⟨rfl, -⟩|⟨a,len,cap,elems,rest,n,hn,rfl,hx,hb,hl,hm,hlen,hel, -, -⟩
    ·refine⟨[.sl false (([]:List (List AV)).map (mkA P e))],.slice t e [] hu (Nat.zero_le _) (by simp) (by simp),nX ?_,fun y hy=>by simp at hy;subst hy;exact .sl _ _ (Nat.zero_le _) (by simp)⟩
     exact .sl false [] none 0 0 0 (fun _ _=>undef) rfl (Nat.le_refl _) (fun h=>by cases h) (fun h=>absurd rfl h) (by simp) (by simp) (by omega)
    ·obtain rfl:fuel=n:=by omega
     have each:∀i,i<len→∃(us:List Value) (ys:List AV),us.length=P.cellsOf e∧(∀j,j<P.cellsOf e→W.cell? (a.add (i * P.cellsOf e+j))=us[j]?)∧Sh P e ys∧rW c ys us∧∀y∈ys,LeA (jO x.1) y:=by
      intro i hi
      have h1:=hel i hi
      rw[List.getElem?_eq_getElem (by omega),Option.bind_eq_some_iff]at h1
      obtain⟨us,hus,htr⟩:=h1
      obtain⟨_,g2,g3⟩:=World.cells?_some hus
      obtain⟨ys,k1,k2,k3⟩:=ih e us _ htr
      refine⟨us,ys,g2,fun j hj=>?_,k1,k2,fun y hy=>(k3 y hy).mono ?_⟩
      case refine_2=>
       have:=aBD (List.mem_map_of_mem (f:=(·.1)) (List.getElem_mem (show i<elems.length by omega)))
       rw[hx];simp only[jO];omega
      rw[←g3 j hj,_root_.Go.Addr.add_add]
     let f:Nat→List AV:=fun i=>if hi:i<len then(each i hi).choose_spec.choose else[]
     let g:Nat→List Value:=fun i=>if hi:i<len then(each i hi).choose else[]
     have hfg:∀i,i<len→(g i).length=P.cellsOf e∧(∀j,j<P.cellsOf e→W.cell? (a.add (i * P.cellsOf e+j))=(g i)[j]?)∧Sh P e (f i)∧rW c (f i) (g i)∧∀y∈f i,LeA (jO x.1) y:=by
      intro i hi
      have:=(each i hi).choose_spec.choose_spec
      simp only[f,g,hi,dif_pos]
      exact this
     have hsize:∀i,i<len→(f i).length=P.cellsOf e:=fun i hi=>by
      obtain⟨q1,_,_,q4,_⟩:=hfg i hi
      rw[q4.1,q1]
     have hcells:∀i,i<len→(mkA P e (f i)).cells=f i:=by
      intro i hi
      unfold mkA
      by_cases ha:hQ P e=true
      ·rw[if_pos ha];rfl
      ·rw[if_neg ha]
       have hs:=(hfg i hi).2.2.1
       have hno:∀fs,P.underlying e≠some (.struct fs):=fun fs q=>ha (by rw[hQ,q])
       have hone:(f i).length=1:=(hsize i hi).trans (he1.resolve_left ha)
       generalize f i=z at hs hone ⊢
       cases hs with
       |bool=>rfl
       |int=>rfl
       |str=>rfl
       |slice=>rfl
       |struct _ fs _ q=>exact absurd q (hno fs)
       |other _ _ _ q=>
        match z,hone with
        |[y],_=>rw[q y (by simp)];rfl
     refine⟨[.sl false (((List.range len).map f).map (mkA P e))],.slice t e _ hu (by simp;omega) ?_ ?_,nX ?_,fun y hy=>?_⟩
     rotate_right
     ·simp at hy
      subst hy
      refine .sl _ _ ?_ fun z hz=>?_
      ·have:=aGX (elems.map (·.1))
       rw[List.length_map]at this
       rw[hx];simp only[jO,List.length_map,List.length_range];omega
      ·simp only[List.map_map,List.mem_map,List.mem_range,Function.comp]at hz
       obtain⟨i,hi,rfl⟩:=hz
       exact .mk (hfg i hi).2.2.2.2
     ·intro z hz
      obtain⟨i,hi,rfl⟩:=List.mem_map.1 hz
      exact(hfg i (by simpa using hi)).2.2.1
     ·intro z hz
      obtain⟨i,hi,rfl⟩:=List.mem_map.1 hz
      exact hsize i (by simpa using hi)
     ·refine .sl false _ (some a) len cap (P.cellsOf e) (fun k j=>(g k).getD j undef) (by simp) hl (fun h=>by cases h) (fun hne=>?_) ?_ ?_ (by have:cap≤maxLen:=hm;simp only[maxLen]at this;omega)
      ·have hlen0:0<len:=by
        rcases Nat.eq_zero_or_pos len with h0|h0
        ·subst h0;simp at hne
        ·exact h0
       have hcell:∀k j,k<len→j<P.cellsOf e→W.cell? (a.add (k * P.cellsOf e+j))=some ((g k).getD j undef):=by
        intro k j hk hj
        obtain⟨q1,q2,_,_⟩:=hfg k hk
        rw[q2 j hj,List.getD_eq_getElem?_getD,List.getElem?_eq_getElem (by omega)];rfl
       have h00:=hcell 0 0 hlen0 (by omega)
       refine⟨a,rfl,?_,hst _ ?_,fun k j hk hj=>?_⟩
       ·have:=World.cell?_spot h00
        simpa[Addr.add]using this
       ·have:=aEG h00
        rwa[Addr.add_block]at this
       ·rw[hw];exact hcell k j (by simpa using hk) hj
      ·intro z hz
       simp only[List.map_map,List.mem_map,List.mem_range,Function.comp]at hz
       obtain⟨i,hi,rfl⟩:=hz
       rw[hcells i hi,hsize i hi]
      ·intro k z j y hz hy
       have hk:k<len:=by
        have:=(List.getElem?_eq_some_iff.1 hz).1
        simpa using this
       have:z=mkA P e (f k):=by
        simp only[List.map_map,List.getElem?_map,List.getElem?_range hk,Option.map_some,Function.comp,Option.some.injEq]at hz
        exact hz.symm
       subst this
       rw[hcells k hk]at hy
       obtain⟨q1,_,_,q4,_⟩:=hfg k hk
       have hj:=(List.getElem?_eq_some_iff.1 hy).1
       refine q4.2 j y _ hy ?_
       rw[List.getD_eq_getElem?_getD,List.getElem?_eq_getElem (by rw[←q4.1];exact hj)];rfl
   ·rename_i fs hu
    rw[Bool.and_eq_true,beq_iff_eq]at hk
    obtain⟨xs,n,hn,hx,hcl,hxl,hfs⟩:=DataW.trod_struct hu h
    obtain rfl:fuel=n:=by omega
    have each:∀f∈fs.toList,∃ys,Sh P f.type ys∧rW c ys ((cs.drop f.offset).take (P.cellsOf f.type))∧∀y∈ys,LeA (jO x.1) y:=by
     intro f hf
     obtain⟨i,hi⟩:=List.getElem?_of_mem hf
     have hi':fs[i]?=some f:=by simpa using hi
     have hlt:i<fs.size:=(Array.getElem?_eq_some_iff.1 hi').1
     have:=hfs i f hi'
     rw[List.getElem?_eq_getElem (by omega)]at this
     obtain⟨ys,k1,k2,k3⟩:=ih _ _ _ this
     refine⟨ys,k1,k2,fun y hy=>(k3 y hy).mono ?_⟩
     have:=aBD (List.mem_map_of_mem (f:=(·.1)) (List.getElem_mem (show i<xs.length by omega)))
     rw[hx];simp only[jO];omega
    have key:∀(l:List Field) (off:Nat),aLO P off l=true→mB P off l≤cs.length→(∀f∈l,∃ys,Sh P f.type ys∧rW c ys ((cs.drop f.offset).take (P.cellsOf f.type))∧∀y∈ys,LeA (jO x.1) y)→
      off≤mB P off l∧∃ys,ShF P l ys∧rW c ys ((cs.drop off).take (mB P off l-off))∧∀y∈ys,LeA (jO x.1) y:=by
     intro l
     induction l with
     |nil=>intro off _ _ _;exact⟨Nat.le_refl _,[],.nil,by simp[mB,rW],fun y hy=>by cases hy⟩
     |cons f l ihl=>
      intro off h1 h2 h3
      rw[aLO,Bool.and_eq_true,beq_iff_eq]at h1
      rw[mB]at h2 ⊢
      obtain⟨q0,ys,q1,q2,q3⟩:=ihl _ h1.2 h2 (fun g hg=>h3 g (by simp[hg]))
      obtain⟨z,r1,r2,r3⟩:=h3 f (by simp)
      refine⟨by omega,z++ys,.cons f l z ys r1 q1,?_,fun y hy=>(List.mem_append.1 hy).elim (r3 y) (q3 y)⟩
      have e:(cs.drop off).take (mB P (off+P.cellsOf f.type) l-off)=(cs.drop f.offset).take (P.cellsOf f.type)++(cs.drop (off+P.cellsOf f.type)).take (mB P (off+P.cellsOf f.type) l-(off+P.cellsOf f.type)):=by
       rw[h1.1,←List.drop_drop,show mB P (off+P.cellsOf f.type) l-off=P.cellsOf f.type+(mB P (off+P.cellsOf f.type) l-(off+P.cellsOf f.type)) by omega,List.take_add]
      rw[e]
      exact aC6 r2 q2
    obtain⟨_,ys,k1,k2,k3⟩:=key fs.toList 0 hk.1 (by omega) each
    refine⟨ys,.struct t fs ys hu k1,?_,k3⟩
    rw[List.drop_zero,Nat.sub_zero,hk.2,←hcl,List.take_length]at k2
    exact k2
   ·cases hk
def aGY(W:World):Ctx:={w:=W,n:=0,blk:=fun _=>0,ver:=fun _=>0,vd:=fun _=>false,stable:=fun b=>b<W.heap.size,base:=0}
theorem yH(W:World):St (aGY W) [] where
 n:=rfl
 lt:=fun i hi=>absurd hi (Nat.not_lt_zero i)
 inj:=fun i j b b' hi=>by simp at hi
 st:=fun k hk=>⟨hk,fun i b hi=>by simp at hi⟩
 rep:=fun i b hi=>by simp at hi
theorem aEI{r:Reach}{b0:Nat}{t:TypeId}{v:Value}(hk:kindB P t=true)(ha:hQ P t=false)(hv:Value.okWide P W r b0 t v):v.cells= #[v]:=by
 unfold kindB at hk
 split at hk
 ·rename_i hu;obtain⟨b,rfl⟩:=okWide_bool hu hv;rfl
 ·rename_i k hu;obtain⟨n,rfl⟩:=okWide_int hu hv;rfl
 ·rename_i hu;obtain⟨s,rfl⟩:=okWide_string hu hv;rfl
 ·rename_i e hu;obtain⟨a,l,c,rfl⟩:=okWide_slice hu hv;rfl
 ·rename_i fs hu;rw[hQ,hu]at ha;cases ha
 ·cases hk
theorem aIO{r:Reach}{b0:Nat}{t:TypeId}{v:Value}{d:DataW H}{p:List MemPlace}(hk:kindB P t=true)(hv:Value.okWide P W r b0 t v)(h:DataW.Trod enc P W base sp held t v d p):
  ∃x,(∃ys,x=mkA P t ys∧Sh P t ys∧(hQ P t=true∨ys.length=1))∧Rep (aGY W) x v∧LeA (jO d) x:=by
 obtain⟨fuel,hf⟩:=h
 obtain⟨ys,h1,h2,h3⟩:=aIN (c:=aGY W) rfl (fun b hb=>hb) fuel t _ _ hf
 cases ha:hQ P t with
 |true=>
  refine⟨_,⟨ys,rfl,h1,.inl rfl⟩,?_,.mk h3⟩
  have:∃cs,v=.agg cs:=by
   unfold hQ at ha
   unfold kindB at hk
   split at ha
   ·rename_i fs hu;obtain⟨cs,rfl, -⟩:=okWide_struct hu hv;exact⟨cs,rfl⟩
   ·rename_i n e hu;rw[hu]at hk;cases hk
   ·cases ha
  obtain⟨cs,rfl⟩:=this
  rw[mkA,if_pos ha]
  exact .agg ys cs (by simpa[Value.cells]using h2.1.symm) fun i y u hy hu=>h2.2 i y u hy (by simpa[Value.cells]using hu)
 |false=>
  have hc:=aEI hk ha hv
  rw[hc]at h2
  have hl:ys.length=1:=by simpa using h2.1
  refine⟨_,⟨ys,rfl,h1,.inr hl⟩,?_,.mk h3⟩
  match ys,hl with
  |[y],_=>
   rw[mkA,if_neg (by simp[ha])]
   exact h2.2 0 y v rfl rfl
theorem dZ{r:Reach}{b0:Nat}{t:TypeId}{v:Value}{d:DataW H}{p:List MemPlace}(hk:kindB P t=true)(hv:Value.okWide P W r b0 t v)(h:DataW.Trod enc P W base sp held t v d p):
  ∃x,(∃ys,x=mkA P t ys∧Sh P t ys∧(hQ P t=true∨ys.length=1))∧Rep (aGY W) x v:=by
 obtain⟨x,h1,h2,_⟩:=aIO hk hv h
 exact⟨x,h1,h2⟩
theorem jI{f:FuncId}{xs:List AV}{args:Array Value}(h:cJ P f xs [] (.bool true))(ha:RepAll (aGY W) xs args):Calls P f args W fun e W'=>e=.returned (.bool true)∧Below W.heap.size W W':=
 (h (aGY W) args (yH W) ha).mono fun e W' ⟨c',x,v,H',e1,e2,_,e4,e5,e6,_⟩=>by
  subst e6
  refine⟨by rw[e1,e5.bool_inv],?_⟩
  subst e2
  exact⟨e4.os,e4.tape,e4.output,e4.size,fun k hk=>(e4.st k hk).2⟩
theorem kS{c:Ctx}{xs:List AV}{vs:List Value}(h:rW c xs vs):RepAll c xs vs.toArray:=
 ⟨by simp[h.1],fun i x v hx hv=>h.2 i x v hx (by simpa using hv)⟩
theorem cL{c:Ctx}{x:AV}{v:Value}{xs:List AV}{vs:List Value}(h:Rep c x v)(hs:rW c xs vs):rW c (x::xs) (v::vs):=aC6 (nX h) hs
theorem mC{c:Ctx}:rW c [] []:=⟨rfl,fun i x v hx=>by simp at hx⟩
end
end Go.Aw
/- What comes in with a row, ars abstract values: stamps, operations, nodes, what was changed, numbers, bools. No condition. -/
namespace Go.Proofs.YthhdnjiodklmmaaGreatDoor
set_option maxRecDepth 20000
open Go Go.Aw Go.Gw Go.ChangeShapes Go.WideShapes Go.ChangeAt Go.RowKit
theorem own:ownKnob Tryz.prog.godebug=none:=by kernel_rfl
theorem eC:laidOutB Tryz.prog=true:=by kernel_rfl
theorem aUa:hQ Tryz.prog 5=false:=by kernel_rfl
theorem aIP{x:AV}(h:∃ys,x=mkA Tryz.prog 5 ys∧Sh Tryz.prog 5 ys∧(hQ Tryz.prog 5=true∨ys.length=1)):∃n,x=.int .u8 n:=by
 obtain⟨ys,rfl,h,_⟩:=h
 obtain⟨n,rfl,hw⟩:=aEF Tryz.underlying5 h
 exact⟨n,by rw[mkA,if_neg (by rw[aUa];decide)];rfl⟩
end Go.Proofs.YthhdnjiodklmmaaGreatDoor
/- The abstract machine: ranges over functions: a round, from the body of the loop; the loop, from what the function does that is ranged over. No condition. -/
namespace Go.Aw
open Go
variable {P:Program}
def aAo:List Nat→List AV→AF→AF
 |p::ps,v::vs,α=>aAo ps vs ((p,v)::α)
 |_,_,α=>α
theorem aBE{c:Ctx}{N:Nat}:∀(ps:List Nat) (us:List Value) (vs:List AV) (α:AF) (ts:Array Value),us.length=vs.length→ps.length=vs.length→(∀p∈ps,p<N)→ts.size=N→
  (∀(i:Nat) (x:AV) (v:Value),vs[i]?=some x→us[i]?=some v→Rep c x v)→(∀t,Rep c (look α t) (ts.getD t undef))→
  ((ps.zip us).foldl (fun tmps (t,a)=>tmps.setIfInBounds t a) ts).size=N∧∀t,Rep c (look (aAo ps vs α) t) (((ps.zip us).foldl (fun tmps (t,a)=>tmps.setIfInBounds t a) ts).getD t undef)
 |[],us,vs,α,ts,_,_,_,hN,_,h=>by simp only[List.zip_nil_left,List.foldl_nil];exact⟨hN,by cases vs<;>exact h⟩
 |p::ps,[],vs,α,ts,h1,h2,_,_,_,_=>by simp at h1 h2;omega
 |p::ps,u::us,[],α,ts,h1,_,_,_,_,_=>by simp at h1
 |p::ps,u::us,v::vs,α,ts,h1,h2,hp,hN,hr,h=>by
  simp only[List.zip_cons_cons,List.foldl_cons,aAo]
  refine aBE ps us vs ((p,v)::α) (ts.setIfInBounds p u) (by simpa using h1) (by simpa using h2) (fun q hq=>hp q (by simp[hq])) (by simpa using hN) (fun i x w a b=>hr (i+1) x w (by simpa using a) (by simpa using b)) fun t=>?_
  have hlt:p<ts.size:=by rw[hN];exact hp p (by simp)
  simp only[look]
  by_cases hpt:p=t
  ·subst hpt
   simp only[beq_self_eq_true,cond_true]
   have:=hr 0 v u rfl rfl
   simpa[hlt]using this
  ·have hb:(p==t)=false:=by simp[hpt]
   rw[hb,cond_false]
   have:=h t
   simpa[Array.getD_eq_getD_getElem?,Array.getElem?_setIfInBounds_ne hpt]using this
def oW(i:Nat)(LB:ABlk)(fin:Bool→Option Code→ABlk)(H0:AHeap)(R:AV→AHeap→Prop)(go:Bool)(pe:Option Code)(H:AHeap):Prop:=
 hget H i=LB∧∃H1 L,H=H1++L∧H1.length=H0.length∧(∀(j:Nat) (b:ABlk),H1[j]?=some b→H0[j]?=some b∨ClB H0.length b)∧R (.bool go) (aD H1 i (fin go pe))
def wF(i:Nat)(LB:ABlk)(fin:Bool→Option Code→ABlk)(H0:AHeap)(R:AV→AHeap→Prop):bP
 |.normal,_,H=>oW i LB fin H0 R true none H
 |.ret,_,H=>oW i LB fin H0 R false (some .ret) H
 |.exit id,_,H=>oW i LB fin H0 R false (some (.exit id)) H
 |_,_,_=>False
def aCe(P:Program)(N i:Nat)(bd:Code)(LR LB:ABlk)(fin:Bool→Option Code→ABlk)(H0:AHeap)(R:AV→AHeap→Prop):bP
 |.normal,β,H=>hget H i=LR∧aw P N bd (wF i LB fin (aD H0 i LB) R) β (aD H i LB)
 |_,_,_=>False
section
variable (N i:Nat) (bd:Code) (LR LB:ABlk) (fin:Bool→Option Code→ABlk) (H0:AHeap) (R:AV→AHeap→Prop) (β:AF) (H:AHeap)
@[go_sem] theorem aK1:wF i LB fin H0 R .normal β H=oW i LB fin H0 R true none H:=rfl
@[go_sem] theorem aQb:wF i LB fin H0 R .ret β H=oW i LB fin H0 R false (some .ret) H:=rfl
@[go_sem] theorem aNP(id:Nat):wF i LB fin H0 R (.exit id) β H=oW i LB fin H0 R false (some (.exit id)) H:=rfl
@[go_sem] theorem aIQ:aCe P N i bd LR LB fin H0 R .normal β H=(hget H i=LR∧aw P N bd (wF i LB fin (aD H0 i LB) R) β (aD H i LB)):=rfl
end
theorem St.loop{c:Ctx}{H:AHeap}(h:St c H){i l N:Nat}{α:AF}{st:LoopState}{pe:Option Code}{ps:Array Tmp}{asg bd:Code}(hh:hget H i=.loop l α N st pe ps asg bd):
  i<c.n∧c.ver i=0∧c.vd i=false∧c.blk i=l∧∃fn D ts,c.w.heap[l]?=some (.loop {state:=st,pending:=pe,fn:=fn,tmps:=ts,params:=ps,assign:=asg,body:=bd,defers:=D})∧ts.size=N∧∀t,Rep c (look α t) (ts.getD t undef):=by
 have hs:=dQ hh trivial
 refine⟨by rw[h.n];exact bI hh trivial,?_⟩
 cases h.rep i _ hs with
 |loop _ _ _ _ _ _ _ _ fn D ts hv hd hl hb hN hr=>exact⟨hv,hd,hl,fn,D,ts,by rw[←hl];exact hb,hN,hr⟩
theorem aAp{c:Ctx}{H:AHeap}(h:St c H){i l N:Nat}{α:AF}{st:LoopState}{pe:Option Code}{ps:Array Tmp}{asg bd:Code}(hh:hget H i=.loop l α N st pe ps asg bd)(st':LoopState)(pe':Option Code){fn D:Nat}{ts:Array Value}
  (hb:c.w.heap[l]?=some (.loop {state:=st,pending:=pe,fn:=fn,tmps:=ts,params:=ps,assign:=asg,body:=bd,defers:=D})):
  Ext c {c with w:=c.w.putObj l (.loop {state:=st',pending:=pe',fn:=fn,tmps:=ts,params:=ps,assign:=asg,body:=bd,defers:=D})}∧
  St {c with w:=c.w.putObj l (.loop {state:=st',pending:=pe',fn:=fn,tmps:=ts,params:=ps,assign:=asg,body:=bd,defers:=D})} (aD H i (.loop l α N st' pe' ps asg bd)):=by
 obtain⟨hin,hv,hd,hl,fn',D',ts',hb',hN,hr⟩:=h.loop hh
 rw[hb]at hb'
 cases hb'
 have hsome:=dQ hh trivial
 have hlt:=(Array.getElem?_eq_some_iff.1 hb).1
 let o:Obj:=.loop {state:=st',pending:=pe',fn:=fn,tmps:=ts,params:=ps,assign:=asg,body:=bd,defers:=D}
 have hsame:(c.w.putObj l o).heap[c.blk i]?=some o:=by rw[hl];exact World.putObj_heap_same hlt
 have hoth:∀b,b≠c.blk i→(c.w.putObj l o).heap[b]?=c.w.heap[b]?:=fun b hne=>World.putObj_heap_other (by rw[←hl];exact hne)
 have hbs:bsize (c.w.putObj l o) (c.blk i)=bsize c.w (c.blk i):=by
  unfold bsize
  rw[hsame,hl,hb]
 have hx:Ext c {c with w:=c.w.putObj l o}:=by
  refine⟨Nat.le_refl _,by simp,fun b hb'=>⟨hb',hoth b fun e=>(h.st b hb').2 i _ hsome trivial hd e.symm⟩,fun _ _=>Nat.le_refl _,fun j hj _=>⟨rfl,rfl,fun _=>?_⟩,rfl,rfl,rfl,rfl⟩
  by_cases e:c.blk j=c.blk i
  ·simp only[e];exact hbs
  ·simp only[bsize];rw[hoth _ e]
 exact h.update (B':=.loop l α N st' pe' ps asg bd) hsome trivial hd (c.w.putObj l o) (by simp) hoth hbs rfl rfl rfl (.loop l α N st' pe' ps asg bd fn D ts hv hd hl hsame hN fun t=>(hr t).mono hx)
theorem aBF{l N i:Nat}{α:AF}{ps:Array Tmp}{asg bd:Code}{vs:List AV}{H:AHeap}{R:AV→AHeap→Prop}{LR:ABlk}(hhR:hget H i=LR)(hLR:LR=.loop l α N .ready none ps asg bd)(hps:ps.size=vs.length)(hpN:(ps.toList.all fun p=>Nat.blt p N)=true)
  (hfa:zD asg=true) (hfb:zD bd=true) (h:∀(LB:ABlk) (fin:Bool→Option Code→ABlk),LB=.loop l α N .busy none ps asg bd→LB.live→(fin true none=LR)→(∀go pe,fin go pe=.loop l α N (bif go then .ready else .done) pe ps asg bd)→
   aw P N asg (aCe P N i bd LR LB fin H R) (aAo ps.toList vs α) H):AYield P l vs H R:=by
 have hh:hget H i=.loop l α N .ready none ps asg bd:=hhR.trans hLR
 replace h:=h _ (fun go pe=>.loop l α N (bif go then .ready else .done) pe ps asg bd) rfl trivial hLR.symm (fun _ _=>rfl)
 intro c us hst ⟨hul,hur⟩
 obtain⟨hin,hv,hd,hl,fn,D,ts,hb,hN,hr⟩:=hst.loop hh
 refine⟨fn,_,asg,bd,run_yield hb (by simp;omega),roundIn_of_wpIn (F:=Fence.wide) (n:=0) trivial ?_⟩
 obtain⟨hsz,hrep⟩:=aBE (c:=c) (N:=N) ps.toList us.toList vs α ts (by simpa using hul) (by simpa using hps) (fun p hp=>by have:=List.all_eq_true.1 hpN p hp;simpa[Nat.blt_eq]using this) hN (fun i x v a b=>hur i x v a (by simpa using b)) hr
 have hfold:(ps.zip us).foldl (fun tmps (t,a)=>tmps.setIfInBounds t a) ts=(ps.toList.zip us.toList).foldl (fun tmps (t,a)=>tmps.setIfInBounds t a) ts:=by
  rw[←Array.foldl_toList,Array.toList_zip]
 rw[←hfold]at hsz hrep
 have hc:St (c.rebase c.w.heap.size) H:=hst.rebase _
 have ha:ARep (c.rebase c.w.heap.size) N (aAo ps.toList vs α) {tmps:=(ps.zip us).foldl (fun tmps (t,a)=>tmps.setIfInBounds t a) ts,defers:=[]}:=
  ⟨hsz,⟨Nat.le_refl _,[],rfl,by simp,by simp⟩,fun t=>(hrep t).rebase _⟩
 refine wpIn_mono (h (some l) (c.rebase c.w.heap.size) _ (.inr hfa) hc ha) fun e a₁ w₁ ⟨c1,β,H1,e1,e2,e3,e4,e5⟩=>?_
 cases e<;>simp only[aCe]at e5<;>try exact e5.elim
 obtain⟨hh1,hbody⟩:=e5
 rw[hLR]at hh1
 subst e1
 obtain⟨_,_,_,_,fn1,D1,ts1,hb1, -, -⟩:=e2.loop hh1
 obtain⟨x1,s1⟩:=aAp e2 hh1 .busy none hb1
 refine⟨_,run_beginRound hb1 rfl,?_⟩
 refine wpIn_mono (hbody (some l) _ a₁ (.inr hfb) s1 (e4.mono x1)) fun e a₂ w₂ ⟨c2,γ,H2,g1,g2,g3,g4,g5⟩=>?_
 have key:∀(jump:Option Code),oW i (.loop l α N .busy none ps asg bd) (fun go pe=>.loop l α N (bif go then .ready else .done) pe ps asg bd) (aD H i (.loop l α N .busy none ps asg bd)) R jump.isNone jump H2→
   ∃v w',(Instr.endRound l jump).run P c2.w=.ok v w'∧∃c' x u H',Ending.returned v=.returned u∧c'.w=w'∧St c' H'∧Ext c c'∧Rep c' x u∧R x H':=by
  rintro jump ⟨hh2,H3,L,rfl,hlen,hcl,hR⟩
  have hlen:H3.length=H.length:=by simpa[aD]using hlen
  have hlenB:(aD H i (.loop l α N .busy none ps asg bd)).length=H.length:=by simp[aD]
  have xx:=(e3.trans x1).trans g3
  have hcn:(c.rebase c.w.heap.size).n=H.length:=hc.n
  have hlB:ClB H.length (.loop l α N .busy none ps asg bd):=by
   have:=hst.cl0 (dQ hh trivial)
   rw[hst.n]at this
   exact this
  have hdrop:St (c2.drop H.length) H3:=St.dropG hlen.symm g2 fun j b hj=>by
   rcases hcl j b hj with q|q
   ·by_cases hji:j=i
    ·subst hji
     rw[aD,List.getElem?_set_self (bI hh trivial)]at q
     cases q
     exact hlB
    ·rw[aD,List.getElem?_set_ne (fun e=>hji e.symm)]at q
     have:=hst.cl0 q
     rwa[hst.n]at this
   ·rwa[hlenB]at q
  have hh3:hget H3 i=.loop l α N .busy none ps asg bd:=by
   have hlt:i<H3.length:=by rw[hlen];exact bI hh trivial
   simpa[hget,List.getD_eq_getElem?_getD,List.getElem?_append_left hlt]using hh2
  obtain⟨_,_,_,_,fn2,D2,ts2,hb2, -, -⟩:=hdrop.loop hh3
  obtain⟨x2,s2⟩:=aAp hdrop hh3 (if jump.isNone then .ready else .done) jump hb2
  have hst':(if jump.isNone=true then LoopState.ready else LoopState.done)=bif jump.isNone then .ready else .done:=by cases jump<;>rfl
  have yy:=(xx.dropN (n:=H.length) (by rw[hcn];exact Nat.le_refl _)).trans x2
  refine⟨_,_,run_endRound jump hb2,({c2.drop H.length with w:=_}:Ctx).rebase c.base,.bool jump.isNone,_,_,rfl,rfl,s2.rebase _,?_,.bool _,hst'▸hR⟩
  exact⟨yy.n,yy.size,yy.st,yy.ver,yy.blk,yy.os,yy.tape,yy.output,rfl⟩
 subst g1
 cases e<;>simp only[wF]at g5<;>try exact g5.elim
 ·exact key none g5
 ·exact key (some (.exit _)) g5
 ·exact key (some .ret) g5
def aLQ(i l:Nat)(α:AF)(N:Nat)(ps:Array Tmp)(asg bd:Code)(Q:bP)(H:AHeap):Prop:=
 (∃st,st≠.busy∧hget H i=.loop l α N st none ps asg bd∧∀X,Q .normal α (aD H i X))∨
 (hget H i=.loop l α N .done (some .ret) ps asg bd∧∀X,Q .ret α (aD H i X))∨
 (∃id,hget H i=.loop l α N .done (some (.exit id)) ps asg bd∧∀X,Q (.exit id) α (aD H i X))
theorem uE{N:Nat}{g:Operand}{ps:Array Tmp}{asg bd:Code}{Q:bP}{α:AF}{H:AHeap}{gf:Nat}{lb:List AV}(hg:ev α g=.func (.func gf) [] lb)(hok:aB P gf=true)
  (h:∀l LB,LB=ABlk.loop l α N .ready none ps asg bd→ACalls P gf (.func (.yield l) [] []::lb) (H++[LB]) (fun _ H'=>aLQ H.length l α N ps asg bd Q H')):aw P N (.rangeFunc g ps asg bd) Q α H:=by
 intro r c a hr hst ha
 have hr0:r=none:=hr.resolve_right (by simp[zD])
 subst hr0
 refine wpIn_rangeFunc fun fn _=>?_
 have hgv:=aH2 ha g
 rw[hg]at hgv
 generalize hev:a.eval g=vg at hgv
 cases hgv with
 |func _ _ _ v1 v2 hl1 hl2 hr1 hr2=>
  obtain rfl:v1= #[]:=Array.eq_empty_of_size_eq_zero hl1
  let rec0:Obj:=.loop {state:=.ready,pending:=none,fn:=fn,tmps:=a.tmps,params:=ps,assign:=asg,body:=bd,defers:=c.w.heap.size}
  let c1:Ctx:=c.fix (.deferred (some []))
  have s1:St c1 H:=hst.fix _
  have x1:Ext c c1:=Ext.fix hst _
  have hsz1:c1.w.heap.size=c.w.heap.size+1:=by simp[c1,Ctx.fix]
  have a1:=ha.mono x1
  let c2:Ctx:=c1.push rec0
  have x2:Ext c1 c2:=Ext.push s1 _ 0
  have s2:St c2 (H++[.loop c1.w.heap.size α N .ready none ps asg bd]):=by
   refine s1.push rec0 0 (.loop _ α N .ready none ps asg bd fn c.w.heap.size a.tmps (by simp[Ctx.push]) (by simp[Ctx.push]) (by simp[Ctx.push]) ?_ a1.size fun t=>(a1.rep t).mono x2)
   simp only[Ctx.push,if_true]
   exact lV _ _
  have hD2:c2.w.heap[c.w.heap.size]?=some (.deferred (some [])):=by
   have h1:c1.w.heap[c.w.heap.size]?=some (.deferred (some [])):=lV _ _
   exact((x2.st _ (.inr rfl)).2).trans h1
  have hall:RepAll c2 (.func (.yield c1.w.heap.size) [] []::lb) (#[.func (.yield c1.w.heap.size) #[] #[]]++v2):=by
   refine⟨by simp[hl2];omega,fun j x v g1 g2=>?_⟩
   cases j with
   |zero=>
    rw[Array.getElem?_append_left (by simp)]at g2
    cases g1;cases g2
    exact .func _ [] [] _ _ rfl rfl (by simp) (by simp)
   |succ j=>
    rw[Array.getElem?_append_right (by simp)]at g2
    rw[List.getElem?_cons_succ]at g1
    exact((hr2 j x v g1 (by simpa using g2)).mono x1).mono x2
  have hcall:=h c1.w.heap.size _ rfl c2 _ s2 hall
  refine⟨c1.w.heap.size,[{target:=.collected c.w.heap.size,args:= #[]}],c2.w,{target:=.fn (.func gf) v2,args:= #[.func (.yield c1.w.heap.size) #[] #[]]},c2.w,gf, #[.func (.yield c1.w.heap.size) #[] #[]]++v2,c2.w,?_,?_,fun _ _=>trivial,?_,fun h=>(by cases h),?_⟩
  ·have:=run_enterLoop_outer (P:=P) (w:=c.w) fn a.tmps ps asg bd
   rw[hsz1]
   exact this
  ·simp only[resolve,hev]
   simp[go_sem,Deferred.ofValue]
  ·simp[invoke,go_sem]
   simpa using lF hok _ _
  ·refine(callsIn_wide (n:=0)).2 (hcall.mono ?_)
   rintro e w3 ⟨c3,x,v,H3,rfl,rfl,s3,x3, -,hb⟩
   have a3:ARep c3 N α {a with defers:=[{target:=.collected c.w.heap.size,args:= #[]}]++a.defers}:=by
    have m:=((ha.mono x1).mono x2).mono x3
    obtain⟨m0,Ds,e,hn,hD⟩:=m.defers
    obtain⟨n0,Ds',e',hn',hD'⟩:=ha.defers
    have hbase:c3.base=c.base:=(x3.base.trans x2.base).trans x1.base
    have hinj:Ds=Ds':=by
     have:=e.symm.trans e'
     clear hD hD' hn hn' e e' m
     induction Ds generalizing Ds' with
     |nil=>cases Ds' with
      |nil=>rfl
      |cons _ _=>simp at this
     |cons d Ds ih=>cases Ds' with
      |nil=>simp at this
      |cons d' Ds'=>simp at this;rw[this.1,ih _ (by simpa using this.2)]
    subst hinj
    refine⟨m.size,⟨m0,c.w.heap.size::Ds,by simp[e],List.nodup_cons.2 ⟨fun hm=>?_,hn⟩,fun D hm=>?_⟩,m.rep⟩
    ·have:=(Array.getElem?_eq_some_iff.1 (hD' _ hm).2.2).1
     omega
    ·rcases List.mem_cons.1 hm with rfl|hm
     ·exact⟨by rw[hbase];exact n0,(x3.st _ (x2.st _ (.inr rfl)).1).1,((x3.st _ (x2.st _ (.inr rfl)).1).2).trans hD2⟩
     ·exact hD D hm
   have done:∀(st:LoopState) (pe:Option Code),st≠.busy→hget H3 H.length=.loop c1.w.heap.size α N st pe ps asg bd→
     ∃c4:Ctx,(Instr.endLoop c1.w.heap.size).run P c3.w=.ok pe c4.w∧St c4 (aD H3 H.length (.loop c1.w.heap.size α N .exhausted pe ps asg bd))∧Ext c c4∧ARep c4 N α {a with defers:=[{target:=.collected c.w.heap.size,args:= #[]}]++a.defers}:=by
    intro st pe hb3 hh3
    obtain⟨_,_,_,_,fn3,D3,ts3,hb3', -, -⟩:=s3.loop hh3
    obtain⟨x4,s4⟩:=aAp s3 hh3 .exhausted pe hb3'
    exact⟨_,run_endLoop hb3' hb3,s4,((x1.trans x2).trans x3).trans x4,a3.mono x4⟩
   rcases hb with⟨st,hbu,hh3,hq⟩|⟨hh3,hq⟩|⟨id,hh3,hq⟩
   ·obtain⟨c4,q1,q2,q3,q4⟩:=done st none hbu hh3
    exact⟨none,c4.w,q1,c4,α,_,rfl,q2,q3,q4,hq _⟩
   ·obtain⟨c4,q1,q2,q3,q4⟩:=done .done _ (by simp) hh3
    exact⟨some .ret,c4.w,q1,wpIn_ret ⟨c4,α,_,rfl,q2,q3,q4,hq _⟩⟩
   ·obtain⟨c4,q1,q2,q3,q4⟩:=done .done _ (by simp) hh3
    exact⟨some (.exit id),c4.w,q1,wpIn_exit ⟨c4,α,_,rfl,q2,q3,q4,hq _⟩⟩
theorem pY{l:Nat}{args:List AV}{H:AHeap}{R K:AV→AHeap→Prop}(h:AYield P l args H R)(hk:∀v H',R v H'→K v H'):lJ P (.func (.yield l) [] []) args H K:=h.mono hk
theorem aIR{N:Nat}{code:Code}{Q:bP}{α:AF}{H:AHeap}(β:AF)(hs:aC3 β α)(h:aw P N code Q β H):aw P N code Q α H:=qZ h (kI hs)
theorem yN{n i v:Nat}{H:AHeap}{cs:List AV}(hn:n≤i)(hh:hget H i=.cells v cs)(hc:∀x∈cs,Cl n x):Frz n H (.ref i v 0) (.cptr cs):=
 .ref i v 0 cs cs hn hh (by omega) fun j x y hx hy=>by
  rw[Nat.zero_add,hy]at hx
  cases hx
  exact .cl _ (hc _ (List.mem_of_getElem? hy))
theorem dW{n:Nat}{H:AHeap}{a b:AV}{cs ds:List AV}(h:Frz n H a b)(hs:∀(i:Nat) (x y:AV),cs[i]?=some x→ds[i]?=some y→Frz n H x y):∀(i:Nat) (x y:AV),(a::cs)[i]?=some x→(b::ds)[i]?=some y→Frz n H x y
 |0,x,y,hx,hy=>by simp at hx hy;subst hx;subst hy;exact h
 |i+1,x,y,hx,hy=>hs i x y (by simpa using hx) (by simpa using hy)
theorem gQ{n:Nat}{H:AHeap}:∀(i:Nat) (x y:AV),([]:List AV)[i]?=some x→([]:List AV)[i]?=some y→Frz n H x y:=fun _ _ _ h=>by simp at h
theorem aT{G:AHeap}{i:Nat}{b:ABlk}(h:hget G i=b)(hb:b.live):∀L,hget (G++L) i=b:=fun L=>aH h hb L
theorem fM{G:AHeap}{i:Nat}{b:ABlk}(h:hget G i=b)(hb:b.live):∀L c,aD (G++L) i c=aD G i c++L:=fun L c=>bS (bI h hb) L c
theorem aC(H:AHeap)(i:Nat)(b:ABlk):(aD H i b).length=H.length:=by simp[aD]
theorem bB{H:AHeap}{i j:Nat}{x:ABlk}(h:hget H j=x)(hn:i≠j)(b:ABlk):hget (aD H i b) j=x:=by
 rw[←h];simp[hget,aD,List.getD_eq_getElem?_getD,List.getElem?_set_ne hn]
theorem cV{H:AHeap}{i:Nat}(h:i<H.length)(b:ABlk):hget (aD H i b) i=b:=by
 simp[hget,aD,List.getD_eq_getElem?_getD,h]
theorem mD{H:AHeap}{i n:Nat}{b:ABlk}(hb:ClB n b):∀(j:Nat) (c:ABlk),(aD H i b)[j]?=some c→H[j]?=some c∨ClB n c:=fun j c h=>by
 by_cases e:i=j
 ·subst e
  by_cases hlt:i<H.length
  ·rw[aD,List.getElem?_set_self hlt]at h;cases h;exact .inr hb
  ·rw[aD,List.getElem?_eq_none (by simp;omega)]at h;cases h
 ·rw[aD,List.getElem?_set_ne e]at h;exact .inl h
theorem cZ(H:AHeap)(i:Nat)(b c:ABlk):aD (aD H i b) i c=aD H i c:=by simp[aD]
theorem kT(H:AHeap){i j:Nat}(b c:ABlk)(h:i≠j):aD (aD H i b) j c=aD (aD H j c) i b:=by simp only[aD];exact List.set_comm _ _ h
theorem gV{H:AHeap}{i:Nat}{b:ABlk}(h:hget H i=b)(hb:b.live):aD H i b=H:=aGt (dQ h hb)
def aFE(K:AF→AHeap→Prop)(Q:bP):bP
 |.normal,α,H=>K α H
 |e,α,H=>Q e α H
def rJ(P:Program)(N:Nat)(body:Code)(Q:bP):Nat→AF→AHeap→Prop
 |0,_,_=>False
 |m+1,α,H=>aw P N body (aFE (rJ P N body Q m) Q) α H
section
variable (K:AF→AHeap→Prop) (Q:bP) (α:AF) (H:AHeap)
@[go_sem] theorem aLR:aFE K Q .normal α H=K α H:=rfl
@[go_sem] theorem aS0:aFE K Q .ret α H=Q .ret α H:=rfl
@[go_sem] theorem aQc(i:Nat):aFE K Q (.exit i) α H=Q (.exit i) α H:=rfl
end
theorem wG{N:Nat}{body:Code}{Q:bP}{α:AF}{H:AHeap}(m:Nat)(h:rJ P N body Q m α H):aw P N (.loop body) Q α H:=by
 intro r c a hr hs ha
 refine wpIn_loop_rounds m ?_
 have key:∀m α H c' a,rJ P N body Q m α H→St c' H→Ext c c'→ARep c' N α a→Code.roundsIn (wf r) 0 P body (fun e a' w'=>∃c' α' H',c'.w=w'∧St c' H'∧Ext c c'∧ARep c' N α' a'∧Q e α' H') m a c'.w:=by
  intro m
  induction m with
  |zero=>intro α H c' a h;exact h.elim
  |succ m ih=>
   intro α H c' a h hs hx ha
   refine wpIn_mono (h r c' a hr hs ha) fun e a' w' ⟨c2,α',H',e1,e2,e3,e4,e5⟩=>?_
   subst e1
   cases e with
   |normal=>exact ih _ _ _ _ e5 e2 (hx.trans e3) e4
   |exit id=>exact⟨c2,α',H',rfl,e2,hx.trans e3,e4,e5⟩
   |goto l=>exact⟨c2,α',H',rfl,e2,hx.trans e3,e4,e5⟩
   |ret=>exact⟨c2,α',H',rfl,e2,hx.trans e3,e4,e5⟩
   |panic ch=>exact⟨c2,α',H',rfl,e2,hx.trans e3,e4,e5⟩
   |outgrown=>exact⟨c2,α',H',rfl,e2,hx.trans e3,e4,e5⟩
 exact key m α H c a h hs (Ext.refl c) ha
theorem all_nil{α:Type}{p:α→Prop}:∀x∈([]:List α),p x:=fun _ h=>by cases h
theorem all_cons{α:Type}{p:α→Prop}{a:α}{l:List α}(h:p a)(hs:∀x∈l,p x):∀x∈a::l,p x:=List.forall_mem_cons.2 ⟨h,hs⟩
theorem aAq{H M:AHeap}{n:Nat}(h:∀b∈M,ClB n b):∀(i:Nat) (b:ABlk),(H++M)[i]?=some b→H[i]?=some b∨ClB n b:=fun i b hi=>by
 by_cases hlt:i<H.length
 ·rw[List.getElem?_append_left hlt]at hi;exact .inl hi
 ·rw[List.getElem?_append_right (by omega)]at hi;exact .inr (h b (List.mem_of_getElem? hi))
theorem uF{f:AV}{args:List AV}{H:AHeap}{x:AV}{k:AV→AHeap→Prop}(h:ACall P f args H (fun r G=>r=x∧G=H))(hk:k x H):lJ P f args H k:=
 h.mono fun _ _ ⟨e1,e2⟩=>by rw[e1,e2];exact hk
end Go.Aw
/- What the functions of the stamps answer. No condition. -/
namespace Go.Proofs.YthhdnjiodklmmaaGreatDoor
open Go Go.Aw Go.Gw
set_option linter.unusedSimpArgs false
set_option maxRecDepth 20000
def okI(a b:Int):Bool:=decide (1≤a)&&decide (a≤1048576)&&decide (0≤b)&&decide (b≤63)
theorem pZ{a b:Int}:okI a b=true↔1≤a∧a≤1048576∧0≤b∧b≤63:=by
 simp[okI,and_assoc]
theorem iS(a b:Int)(H:AHeap):cJ Tryz.prog 103 [.agg [.int .i64 a,.int .i64 b]] H (.bool (okI a b)):=by
 refine aL Tryz.func103 rfl (Nat.le_of_ble_eq_true rfl) ?_
 repeat' first|(refine gS ?_;simp only[go_sem])|refine gA ?_|(refine gD (fun h=>?_) (fun h=>?_)<;>try exact aA h)|fail
 exact⟨_,_,rfl,.cl _ (.bool _),rfl⟩
def xN(a b c d:Int):Bool:=decide (a<c)||(decide (a=c)&&decide (b<d))
theorem uG{a b c d:Int}:xN a b c d=true↔(a<c∨(a=c∧b<d)):=by
 simp[xN]
theorem tH(a b c d:Int)(H:AHeap):cJ Tryz.prog 84 [.agg [.int .i64 a,.int .i64 b],.agg [.int .i64 c,.int .i64 d]] H (.bool (xN a b c d)):=by
 refine aL Tryz.func84 rfl (Nat.le_of_ble_eq_true rfl) ?_
 repeat' first|(refine gS ?_;simp only[go_sem])|refine gA ?_|(refine gD (fun h=>?_) (fun h=>?_)<;>try exact aA h)|fail
 all_goals refine⟨_,_,rfl,.cl _ (.bool _),congrArg AV.bool ?_⟩
 all_goals(rw[Bool.eq_iff_iff,uG];simp at *;omega)
def fV(n:Int):Bool:=decide (128≤n)&&decide (n<134217856)
theorem aCf{n:Int}:fV n=true↔128≤n∧n<134217856:=by simp[fV]
theorem aIS{n:Int}:fV n=false↔¬(128≤n∧n<134217856):=by rw[←aCf,Bool.not_eq_true]
def oA(n:Int):Int:=if fV n=true then n / 128 else 0
def oB(n:Int):Int:=if fV n=true then n % 128 / 2 else 0
def oC(n:Int):Bool:=fV n&&decide (n % 2=1)
theorem kU(n:Int)(H:AHeap):cJ Tryz.prog 82 [.int .i64 n] H (.tup [.agg [.int .i64 (oA n),.int .i64 (oB n)],.bool (oC n),.bool (fV n)]):=by
 refine aFB fun hok=>?_
 have hn:=(aPb hok).2
 refine aL Tryz.func82 rfl (Nat.le_of_ble_eq_true rfl) ?_
 repeat' first|((first|refine cK (ct (iS _ _) cH) ?_|refine cP (ct (iS _ _) cH) ?_|refine cM (ct (iS _ _) cH) ?_|refine gS ?_);simp only[go_sem])|refine gA ?_|(refine gD (fun h=>?_) (fun h=>?_)<;>try exact aA h)|fail
 all_goals refine sH (k:=3) rfl ?_
 ·have e:fV n=false:=aIS.2 (by simp at h;omega)
  simp[oA,oB,oC,e]
 ·rename_i h0
  simp at h0
  rw[Int.tdiv_eq_ediv_of_nonneg (by omega),Int.tmod_eq_emod_of_nonneg (by omega),Int.tdiv_eq_ediv_of_nonneg (by omega),wrap_i64 (by omega) (by omega),wrap_i64 (by omega) (by omega)]at h
  have h':¬okI (n / 128) (n % 128 / 2)=true:=by simpa using h
  rw[pZ]at h'
  have e:fV n=false:=aIS.2 (by omega)
  simp[oA,oB,oC,e]
 ·rename_i h0
  simp at h0
  rw[Int.tdiv_eq_ediv_of_nonneg (by omega),Int.tmod_eq_emod_of_nonneg (by omega),Int.tdiv_eq_ediv_of_nonneg (by omega),wrap_i64 (by omega) (by omega),wrap_i64 (by omega) (by omega)]at h ⊢
  rw[Int.tmod_eq_emod_of_nonneg (by omega)]
  have h':okI (n / 128) (n % 128 / 2)=true:=by simpa using h
  rw[pZ]at h'
  have e:fV n=true:=aCf.2 (by omega)
  simp[oA,oB,oC,e]
def dirI(n:Int):Bool:=decide (n=0)||decide (n=2)||(fV n&& !oC n)
theorem uH(n:Int)(H:AHeap):cJ Tryz.prog 63 [.int .i64 n] H (.bool (dirI n)):=by
 refine aL Tryz.func63 rfl (Nat.le_of_ble_eq_true rfl) ?_
 repeat' first|((first|refine cK (ct (kU _) bO) ?_|refine cP (ct (kU _) bO) ?_|refine cM (ct (kU _) bO) ?_|refine gS ?_);simp only[go_sem])|refine gA ?_|(refine gD (fun h=>?_) (fun h=>?_)<;>try exact aA h)|fail
 ·exact aC2 (k:=3) rfl (by simp only[dirI,h];rfl)
 ·exact sH (k:=3) rfl (by simp only[dirI,h];rfl)
def mE(a b n:Int):Bool:=fV n&&xN a b (oA n) (oB n)
theorem lM(a b n:Int)(H:AHeap):cJ Tryz.prog 104 [.agg [.int .i64 a,.int .i64 b],.int .i64 n] H (.bool (mE a b n)):=by
 refine aL Tryz.func104 rfl (Nat.le_of_ble_eq_true rfl) ?_
 repeat' first|((first|refine cK (ct (kU _) bO) ?_|refine cP (ct (kU _) bO) ?_|refine cM (ct (kU _) bO) ?_|refine cK (ct (tH _ _ _ _) jN) ?_|refine cP (ct (tH _ _ _ _) jN) ?_|refine cM (ct (tH _ _ _ _) jN) ?_|refine gS ?_);simp only[go_sem])|refine gA ?_|(refine gD (fun h=>?_) (fun h=>?_)<;>try exact aA h)|fail
 exact sH (k:=3) rfl rfl
theorem aC8(o:Opn)(H:AHeap):cJ Tryz.prog 102 [opA o] H (if o.kind=1 then .iface 218 (opA o)else if o.kind=2 then .iface 219 (opA o)else .nilIface):=by
 refine aL Tryz.func102 rfl (Nat.le_of_ble_eq_true rfl) ?_
 simp only[opA]
 repeat' first|(refine gS ?_;simp only[go_sem])|refine gA ?_|(refine gD (fun h=>?_) (fun h=>?_)<;>try exact aA h)|fail
 all_goals(simp only[decide_eq_true_eq,decide_eq_false_iff_not]at *)
 ·simp only[h,if_true];exact done (by simp only[go_sem]) (.refl _)
 ·simp only[*,if_true,if_false];exact done (by simp only[go_sem]) (.refl _)
 ·simp only[*,if_true,if_false];exact done (by simp only[go_sem]) (.refl _)
end Go.Proofs.YthhdnjiodklmmaaGreatDoor
/- The abstract machine: calls of functions without a body: the bytes of a string counted, and sought. No condition. -/
namespace Go.Aw
open Go
variable {P:Program}
def FnX(P:Program)(f:FuncId)(args:List AV)(H:AHeap)(x:AV):Prop:=AExtern P f args H (fun v H'=>v=x∧H'=H)
theorem aBG{f:FuncId}{args:List AV}{H:AHeap}{x:AV}{k:AV→AHeap→Prop}(h:FnX P f args H x)(hk:k x H):lJ P (.func (.func f) [] []) args H k:=
 Or.inr (by
  simp only[List.nil_append,List.append_nil]
  exact h.mono fun y H' ⟨e1,e2⟩=>by subst e1;subst e2;exact hk)
theorem aBH{g:Bool}{f:FuncId}{args:List AV}{H:AHeap}{x:AV}{K:AV→Prop}(h:FnX P f args H x)(hk:K x):lI P g (.func (.func f) [] []) args H K:=
 ⟨x,fun _=>Or.inr (by
  simp only[List.nil_append,List.append_nil]
  exact h),hk⟩
theorem aFF{c:Ctx}{x y:AV}{vs:Array Value}(h:RepAll c [x,y] vs):∃u v,vs= #[u,v]∧Rep c x u∧Rep c y v:=by
 obtain⟨hl,hr⟩:=h
 obtain⟨l⟩:=vs
 match l,hl,hr with
 |[u,v],_,hr=>exact⟨u,v,rfl,hr 0 _ _ rfl rfl,hr 1 _ _ rfl rfl⟩
theorem aCg(l:List UInt8)(c:UInt8):Lib.indexByte l c<(l.length:Int)∨l=[]:=by
 induction l with
 |nil=>exact .inr rfl
 |cons b l ih=>
  refine .inl ?_
  rw[Lib.indexByte,List.length_cons]
  split
  ·omega
  ·split
   ·omega
   ·rcases ih with h|h
    ·omega
    ·subst h;rename_i h1;exact absurd rfl h1
theorem aQd{f:FuncId}{fn:Func}(hf:P.funcs[f]?=some fn)(h1:(fn.name== "runtime.NumGoroutine")=false)(h2:fn.body.isNone=true)(h3:Extern.findNext fn=none)(h4:Extern.find fn=some Extern.BytealgCount.count)
  (s:List UInt8) (b:Int) (H:AHeap):FnX P f [.str s,.int .u8 b] H (.int .i64 (Lib.countByte s b.toNat.toUInt8)):=by
 intro c vs hst ha
 obtain⟨u,v,rfl,hu,hv⟩:=aFF ha
 cases hu with
 |str _ hs=>
  cases hv with
  |int _ _ hb=>
   refine⟨_,_,?_,.int .i64 (Lib.countByte s b.toNat.toUInt8:Nat) ?_,rfl,rfl⟩
   ·rw[run_callFunc_extern hf h1 h2 h3 h4,Lib.run_countString]
    rfl
   ·have:Lib.countByte s b.toNat.toUInt8≤s.length:=List.count_le_length
    exact⟨by show(-9223372036854775808:Int)≤_;omega,by show _≤(9223372036854775807:Int);omega⟩
theorem aQe{f:FuncId}{fn:Func}(hf:P.funcs[f]?=some fn)(h1:(fn.name== "runtime.NumGoroutine")=false)(h2:fn.body.isNone=true)(h3:Extern.findNext fn=none)(h4:Extern.find fn=some Extern.BytealgIndexByte.indexByte)
  (s:List UInt8) (b:Int) (H:AHeap):FnX P f [.str s,.int .u8 b] H (.int .i64 (Lib.indexByte s b.toNat.toUInt8)):=by
 intro c vs hst ha
 obtain⟨u,v,rfl,hu,hv⟩:=aFF ha
 cases hu with
 |str _ hs=>
  cases hv with
  |int _ _ hb=>
   refine⟨_,_,?_,.int .i64 (Lib.indexByte s b.toNat.toUInt8) ?_,rfl,rfl⟩
   ·rw[run_callFunc_extern hf h1 h2 h3 h4,Lib.run_indexByteString]
    rfl
   ·have h5:=Lib.indexByte_ge s b.toNat.toUInt8
    have h6:=aCg s b.toNat.toUInt8
    refine⟨by show(-9223372036854775808:Int)≤_;omega,by show _≤(9223372036854775807:Int);rcases h6 with h|h;omega;subst h;show(-1:Int)≤_;omega⟩
end Go.Aw
/- The abstract machine: a slice in a block that is none yet gets a block of its own. No condition. -/
namespace Go.Aw
open Go
set_option linter.unusedVariables false
variable {P:Program}
theorem St.putRep{c:Ctx}{H:AHeap}(hst:St c H){i v:Nat}{cs ds:List AV}(hh:hget H i=.cells v cs)(hr:BRep c i (.cells v ds)):St c (aD H i (.cells v ds)):=by
 have hi:=dQ hh trivial
 have hlt:=bI hh trivial
 have hget:∀{j:Nat} {b:ABlk},(aD H i (.cells v ds))[j]?=some b→(j=i∧b=.cells v ds)∨(j≠i∧H[j]?=some b):=by
  intro j b hj
  by_cases e:j=i
  ·subst e
   rw[aD,List.getElem?_set_self hlt]at hj
   cases hj;exact .inl ⟨rfl,rfl⟩
  ·rw[aD,List.getElem?_set_ne (fun q=>e q.symm)]at hj
   exact .inr ⟨e,hj⟩
 have hget':∀{j:Nat} {b:ABlk},(aD H i (.cells v ds))[j]?=some b→b.live→∃b':ABlk,H[j]?=some b'∧b'.live:=by
  intro j b hj hb
  rcases hget hj with⟨rfl,rfl⟩|⟨_,h⟩
  ·exact⟨_,hi,trivial⟩
  ·exact⟨_,h,hb⟩
 refine⟨by simp[aD,hst.n],hst.lt,fun j k b b' hj hk hb hb' dj dk he=>?_,fun k hk=>?_,fun j b hj=>?_⟩
 ·obtain⟨b1,g1,g2⟩:=hget' hj hb
  obtain⟨b2,g3,g4⟩:=hget' hk hb'
  exact hst.inj j k b1 b2 g1 g3 g2 g4 dj dk he
 ·obtain⟨h1,h2⟩:=hst.st k hk
  refine⟨h1,fun j b hj hb dj=>?_⟩
  obtain⟨b1,g1,g2⟩:=hget' hj hb
  exact h2 j b1 g1 g2 dj
 ·rcases hget hj with⟨rfl,rfl⟩|⟨_,h⟩
  ·exact hr
  ·exact hst.rep j b h
theorem BRep.mapC{c c':Ctx}{i v:Nat}{cs ds:List AV}(hr:BRep c i (.cells v cs))(h1:c'.ver i=c.ver i)(h2:c'.vd i=c.vd i)(h3:c'.blk i=c.blk i)(h4:c'.w=c.w)(hl:cs.length=ds.length)
  (hs:∀(i:Nat) (x y:AV),cs[i]?=some x→ds[i]?=some y→∀v,Rep c x v→Rep c' y v):BRep c' i (.cells v ds):=by
 cases hr with
 |cells _ _ vs e fr q1 q2 q3 q4 q5 q6=>
  refine .cells _ _ vs e fr (by rw[h1];exact q1) (by rw[h2];exact q2) (by rw[h3,h4];exact q3) (by omega) q5 fun m y u hy hu=>?_
  have hlt2:=(List.getElem?_eq_some_iff.1 hy).1
  have hx:cs[m]?=some (cs[m]'(by omega)):=List.getElem?_eq_getElem (by omega)
  exact hs m _ y hx hy u (q6 m _ u hx hu)
 |void _ q1 q2=>
  have:ds=[]:=List.eq_nil_of_length_eq_zero (by simpa using hl.symm)
  subst this
  exact .void _ (by rw[h1];exact q1) (by rw[h2];exact q2)
theorem St.simR{c:Ctx}{H:AHeap}(hst:St c H){i v:Nat}{cs ds:List AV}(hh:hget H i=.cells v cs)(hl:cs.length=ds.length)(hs:∀(i:Nat) (x y:AV),cs[i]?=some x→ds[i]?=some y→∀v,Rep c x v→Rep c y v):St c (aD H i (.cells v ds)):=
 hst.putRep hh ((hst.rep i _ (dQ hh trivial)).mapC rfl rfl rfl rfl hl hs)
theorem BRep.pre{c:Ctx}{i v:Nat}{cs rest:List AV}(hr:BRep c i (.cells v (cs++rest))):BRep c i (.cells v cs):=by
 generalize hx:cs++rest=xs at hr
 cases hr with
 |cells _ _ vs e fr q1 q2 q3 q4 q5 q6=>
  subst hx
  refine .cells _ _ vs e fr q1 q2 q3 (by rw[List.length_append]at q4;omega) q5 fun m y u hy hu=>q6 m y u ?_ hu
  rw[List.getElem?_append_left (List.getElem?_eq_some_iff.1 hy).1];exact hy
 |void _ q1 q2=>
  have:cs=[]:=(List.append_eq_nil_iff.1 hx).1
  subst this
  exact .void _ q1 q2
theorem ACalls.trunc{f:FuncId}{args:List AV}{H:AHeap}{i v:Nat}{cs:List AV}{x:AV}(hi:i<H.length)(h:ACalls P f args H (fun r H'=>∃rest,r=x∧H'=aD H i (.cells v (cs++rest)))):ACalls P f args H (fun r H'=>r=x∧H'=aD H i (.cells v cs)):=by
 intro c vs hs ha
 refine(h c vs hs ha).mono fun e w' ⟨c',y,val,H',e1,e2,e3,e4,e5,rest,e6,e7⟩=>⟨c',y,val,aD H' i (.cells v cs),e1,e2,?_,e4,e5,e6,by rw[e7,cZ]⟩
 have hh:hget H' i=.cells v (cs++rest):=by rw[e7];exact cV hi _
 exact e3.putRep hh (e3.rep i _ (dQ hh trivial)).pre
theorem lC{f:FuncId}{args:List AV}{H H1:AHeap}{v:AV}{K:AV→AHeap→Prop}(h:ACalls P f args H (fun x H'=>x=v∧H'=H1))(ok:aB P f=true)(hk:K v H1):aIE P true (.func (.func f) [] []) args H K:=
 ⟨v,H1,fun _=>Or.inl ⟨ok,by simp only[List.nil_append,List.append_nil];exact h⟩,fun h=>by(cases h),hk⟩
def aGZ(n:Nat)(G A H1:AHeap)(H:AHeap):Prop:=∀(k:Nat) (a b:ABlk),A[k]?=some a→H1[k]?=some b→(a=b∧(H[k]?=some b∨ClB n b))∨∃ver cs ds,a=.cells ver cs∧b=.cells ver ds∧cs.length=ds.length∧∀(m:Nat) (x y:AV),cs[m]?=some x→ds[m]?=some y→Frz n G x y
theorem St.dropF{c:Ctx}{n:Nat}{A L H1 H:AHeap}(hn:n=A.length)(hst:St c (A++L))(hl:H1.length=A.length)(hcl:∀(i:Nat) (b:ABlk),H[i]?=some b→ClB n b)(hf:aGZ n (A++L) A H1 H):St (c.drop n) H1:=by
 have get:∀{i:Nat} {b:ABlk},H1[i]?=some b→∃a:ABlk,A[i]?=some a∧(A++L)[i]?=some a∧(b.live→a.live):=by
  intro i b hi
  have h1:=(List.getElem?_eq_some_iff.1 hi).1
  have ha:A[i]?=some (A[i]'(by omega)):=List.getElem?_eq_getElem (by omega)
  refine⟨_,ha,by rw[List.getElem?_append_left (by omega)];exact ha,fun hb=>?_⟩
  rcases hf i _ b ha hi with⟨e, -⟩|⟨ver,cs,ds,e1, -⟩
  ·rw[e];exact hb
  ·rw[e1];trivial
 refine⟨by rw[hl];exact hn,fun i hi hd=>?_,fun i j b b' hi hj hb hb' di dj he=>?_,fun k hk=>?_,fun i b hi=>?_⟩
 ·have hi':i<n:=hi
  exact hst.lt i (by rw[hst.n];simp;omega) hd
 ·obtain⟨a, -,a2,a3⟩:=get hi
  obtain⟨a', -,a2',a3'⟩:=get hj
  exact hst.inj i j a a' a2 a2' (a3 hb) (a3' hb') di dj he
 ·have hln:=hst.n
  rw[List.length_append]at hln
  rcases hk with hk|⟨i,h1,h2,h3,rfl⟩
  ·obtain⟨q1,q2⟩:=hst.st k hk
   refine⟨q1,fun j b hj hb hd=>?_⟩
   obtain⟨a, -,a2,a3⟩:=get hj
   exact q2 j a a2 (a3 hb) hd
  ·refine⟨hst.lt i h2 h3,fun j b hj hb hd e=>?_⟩
   obtain⟨a,a1,a2,a3⟩:=get hj
   have hj':=(List.getElem?_eq_some_iff.1 a1).1
   have hlt:i<(A++L).length:=by rw[List.length_append];omega
   have hi:(A++L)[i]?=some (A++L)[i]:=List.getElem?_eq_getElem hlt
   by_cases hlive:((A++L)[i]).live
   ·have:=hst.inj j i a _ a2 hi (a3 hb) hlive hd h3 e
    omega
   ·have hr:=hst.rep i _ hi
    generalize(A++L)[i]=bi at hr hlive
    cases hr with
    |gone hd'=>rw[h3]at hd';cases hd'
    |_=>exact hlive trivial
 ·obtain⟨a,a1,a2, -⟩:=get hi
  have h1:=hst.rep i a a2
  rcases hf i a b a1 hi with⟨e,hb⟩|⟨ver,cs,ds,e1,e2,e3,e4⟩
  ·subst e
   have h2:ClB n a:=hb.elim (hcl i a) id
   cases h1 with
   |cells ver cs vs e fr hv hd hh hl hf hr=>exact .cells ver cs vs e fr hv hd hh hl hf fun j x v hx hv'=>(hr j x v hx hv').drop (h2 x (List.mem_of_getElem? hx))
   |void ver hv hd=>exact .void ver hv hd
   |map es clock ents hv hd hh hl hr=>exact .map es clock ents hv hd hh hl fun j p e hp he=>let⟨g1,g2,g3⟩:=hr j p e hp he;let⟨q1,q2⟩:=h2 p (List.mem_of_getElem? hp);⟨g1.drop q1,g2.drop q2,g3⟩
   |miter m since seen stepped hv hd hm hmv hmd hh=>exact .miter m since seen stepped hv hd h2 hmv hmd hh
   |siter s pos hv hd hh hsl=>exact .siter s pos hv hd hh hsl
   |loop l α N st pe ps ars bd fn D ts hv hd hl hh hN hr=>exact .loop l α N st pe ps ars bd fn D ts hv hd hl hh hN fun t=>(hr t).drop (h2 t)
   |gone hd=>exact .gone hd
  ·subst e1
   subst e2
   cases h1 with
   |cells _ _ vs e fr hv hd hh hl hf hr=>
    refine .cells ver ds vs e fr hv hd hh (by omega) hf fun j y v hy hv'=>?_
    have hlt:=(List.getElem?_eq_some_iff.1 hy).1
    have hx:cs[j]?=some (cs[j]'(by omega)):=List.getElem?_eq_getElem (by omega)
    exact(e4 j _ y hx hy).sound hst (hr j _ v hx hv')
   |void _ hv hd=>
    have:ds=[]:=List.eq_nil_of_length_eq_zero (by simpa using e3.symm)
    subst this
    exact .void ver hv hd
theorem mF{f:FuncId}{fn:Func}{code:Code}{args:List AV}{H:AHeap}{R:AV→AHeap→Prop}(hf:P.funcs[f]?=some fn)(hb:fn.body=some code)(hn:args.length≤fn.ntmps)
  (h:aw P fn.ntmps code (aCZ P fn.results.toList fun v H'=>∃A L H1 y,H'=A++L∧A.length=H.length∧H1.length=H.length∧aGZ H.length H' A H1 H∧Frz H.length H' v y∧R y H1) (jB 0 args) H):ACalls P f args H R:=by
 intro c vs hs ha
 refine(dH hf hb hn h c vs hs ha).mono fun e w' ⟨c',x,v,H',e1,e2,e3,e4,e5,A,L,H1,y,e6,e7,e8,e9,e10,e11⟩=>?_
 subst e6
 refine⟨c'.drop c.n,y,v,H1,e1,e2,St.dropF (H:=H) (by rw[hs.n,e7]) e3 (by rw[e8,e7]) (fun i b hi=>hs.cl0 hi) (by rw[hs.n];exact e9),e4.drop,?_,e11⟩
 have:=e10.sound e3 e5
 rwa[←hs.n]at this
theorem aIT{c:Ctx}{H:AHeap}(hst:St c H)(s:Nat){v:Value}(h:Rep c.void (.sl true []) v):Rep c.void (.osl s H.length 1 0 0 0) v:=by
 cases h with
 |sl _ _ base len cap s' vs h1 h2 h3 h4 h5 h6 h7=>
  have hcap:=h3 rfl
  simp at h1
  subst h1
  subst hcap
  exact .osl _ _ _ _ _ _ _ (by simp[Ctx.void,hst.n]) (by simp[Ctx.void,hst.n]) rfl (by omega) (fun _ _=>⟨rfl,rfl,base,rfl⟩) (fun _ hd=>by simp[Ctx.void,hst.n]at hd)
theorem aAr{N:Nat}{code:Code}{Q:bP}{α:AF}{H:AHeap}(i j s:Nat){v:Nat}{cs:List AV}(hh:hget H i=.cells v cs)(hj:cs[j]?=some (.sl true []))
  (h:aw P N code Q α (aD (H++[.cells 1 []]) i (.cells v (cs.set j (.osl s H.length 1 0 0 0))))):aw P N code Q α H:=by
 intro r c a hr hst ha
 have hv:=Ext.void c
 have hget:=aH hh trivial [.cells 1 []]
 refine wpIn_mono (h r c.void a hr (hst.void.simR hget (by simp) fun k x y hx hy v hr=>?_) ⟨ha.size,ha.defers.mono hv,fun u=>(ha.rep u).mono hv⟩) fun _ _ _ ⟨c',α',H',e1,e2,e3,e4,e5⟩=>⟨c',α',H',e1,e2,hv.trans e3,e4,e5⟩
 by_cases e:k=j
 ·subst e
  rw[List.getElem?_set_self (List.getElem?_eq_some_iff.1 hj).1]at hy
  cases hy
  rw[hj]at hx
  cases hx
  exact aIT hst s hr
 ·rw[List.getElem?_set_ne (fun q=>e q.symm)]at hy
  rw[hx]at hy
  cases hy
  exact hr
end Go.Aw
