/- What the functions of this seat answer (40 of 40). No condition. -/
import Derived.Test.YtigedpfipifefaaGreatDoorWorkBM
set_option linter.unusedSimpArgs false
set_option linter.unusedVariables false
set_option maxRecDepth 100000
set_option maxHeartbeats 16000000
namespace Go.Proofs.YtigedpfipifefaaGreatDoor
theorem aCn(r s:Int)(f:Bool)(l:List Ord)(b:Txt)(H:AHeap):bJ Tryz.prog 3 [.int .i64 r,.int .i64 s,.sl f (l.map eH),.str b] H (.bool true):=aGF uK r s f l b H
theorem aCo(r s c:Int)(f:Bool)(l:List Ord)(q:LeA 1048576 (.sl f (l.map eH)))(H:AHeap):
  bJ Tryz.prog 6 [.int .u8 r,.int .u16 s,.sl f (l.map eH),.int .u16 c] H (.bool true):=by
 refine uR fun k1 k2 k3 k4=>?_
 refine aGG uK r s c f l (fun o ho=>?_) (by have:=q.sl_le.1;rwa[zAs]at this) H
 have hk:=wJ k3 o ho;have hq:=(q.sl_le.2 (eH o) (List.mem_map_of_mem ho)).agg_le;exact⟨(hq (.str o.call.path) (by simp[eH,pB])).str_le,(hq (.str o.call.to) (by simp[eH,pB])).str_le,(hq (.str o.call.data) (by simp[eH,pB])).str_le,
  (mD (hk _ (by simp:AV.int .i64 o.call.n∈_))).2,(mD (hk _ (by simp:AV.int .i64 o.pick∈_))).2,(hq (.str o.picks) (by simp[eH,pB])).str_le⟩
end Go.Proofs.YtigedpfipifefaaGreatDoor
