/- What the functions of this seat answer (20 of 40). No condition. -/
import Derived.Test.YtigedpfipifefaaGreatDoorWorkAQ
set_option linter.unusedSimpArgs false
set_option linter.unusedVariables false
set_option maxRecDepth 100000
set_option maxHeartbeats 16000000
namespace Go.Proofs.YtigedpfipifefaaGreatDoor
theorem aD7(n:Int)(H:AHeap):bJ Tryz.prog 110 [.int .u32 n] H (.str (aGm n)):=by
 refine fO Tryz.func110 ?_;repeat' first|(refine gS ?_;simp only[go_sem])|refine gA ?_|(refine gD ?_ ?_<;>intro h<;>try exact aD h)|fail
 exact cU (.of rfl)
theorem uA(k:Nat)(n:Int):xX (k+1) n=xX k (nM n):=rfl
theorem aB3(n:Int):xX 0 n=n:=rfl
theorem aB4(o:BinOp)(a b:Int):0≤aY o .u32 a b∧aY o .u32 a b≤4294967295:=by
 unfold aY;simp only[IntKind.wrap,IntKind.signed,IntKind.bits];split<;>simp<;>omega
theorem aJF(n:Int)(c:UInt8)(H:AHeap):bJ Tryz.prog 159 [.int .u32 n,.int .u8 c.toNat] H (.int .u32 (xY n c)):=by
 refine fO Tryz.func159 ?_;have hb:∀m:Int,0≤m→m≤4294967295→m.fdiv (2 ^ min 31 32)=0∨m.fdiv (2 ^ min 31 32)=1:=fun m h0 h1=>by
  rw[zBk _ (by decide)]
  simp;omega
 have hr:=aB4;iterate 2 first|(refine gS ?_;simp only[go_sem])|refine gA ?_|(refine gD ?_ ?_<;>intro h<;>try exact aD h)|fail
 refine qU (ι:=Int×Nat) 0 (fun s=>[(0,.int .u32 s.1),(4,.int .u32 0),(5,.int .i64 s.2)]) (fun _=>H) (fun s=>1≤s.2∧s.2≤8∧0≤s.1∧s.1≤4294967295∧xX s.2 s.1=xY n c) (fun s=>s.2) (by rfl) (by rfl) ?_ ?_
 ·obtain⟨m,hm⟩:∃m,m=aY .xor .u32 n (IntKind.u32.wrap (IntKind.u32.wrap c.toNat * 2 ^ min 24 32)):=⟨_,rfl⟩;have hz:=hb m (by rw[hm];exact(hr ..).1) (by rw[hm];exact(hr ..).2)
  have hs:xX 7 (nM m)=xY n c:=by rw[xY,←hm];exact(uA 7 m).symm
  have hsr:0≤nM m∧nM m≤4294967295:=by unfold nM;exact hr ..
  have hw:IntKind.i64.wrap (8-1)=((7:Nat):Int):=rfl;have e:=nM.eq_1 m;rcases hz with hz|hz;all_goals
   rw[hz]at e;repeat' first|(refine gS ?_;simp only[go_sem,←hm,hz,hw])|refine gA ?_|(refine gD ?_ ?_<;>intro h<;>try exact aD h)|fail
   exact aAV ⟨rfl,(nM m,7),⟨by simp,by simp,hsr.1,hsr.2,hs⟩,by rw[e];simp[go_sem],rfl⟩
 ·rintro⟨m,k⟩ ⟨h1,h2,h3,h4,h5⟩;simp only at h1 h2 h3 h4 h5;obtain⟨q,rfl⟩:∃q,k=q+1:=⟨k-1,by omega⟩
  have hs:xX q (nM m)=xY n c:=by rw[←h5,uA]
  have hsr:0≤nM m∧nM m≤4294967295:=by unfold nM;exact hr ..
  have hw:IntKind.i64.wrap (((q+1:Nat):Int)-1)=(q:Int):=by rw[wI];omega
  have e:=nM.eq_1 m;rcases hb m h3 h4 with hz|hz;all_goals
   rw[hz]at e;by_cases hq:q=0
   ·subst hq;repeat' first|(refine gS ?_;simp only[go_sem,hz,hw])|refine gA ?_|(refine gD ?_ ?_<;>intro h<;>try exact aD h)|fail
    exact cU (.of (by rw[←hs,aB3,e];rfl))
   ·have hd:decide ((0:Int)<(q:Int))=true:=dT;repeat' first|(refine gS ?_;simp only[go_sem,hz,hw,hd])|refine gA ?_|(refine gD ?_ ?_<;>intro h<;>try exact aD h)|fail
    exact aAV ⟨rfl,(nM m,q),⟨⟨by simp only;omega,by simp only;omega,hsr.1,hsr.2,hs⟩,by simp only;omega⟩,by rw[e];simp[go_sem],rfl⟩
theorem aJG(s:Txt)(f:Bool)(hs:s.length≤1073741824)(H:AHeap):bJ Tryz.prog 111 [.sl f [.str s]] H (.int .u32 (aBY s)):=by
 refine fO Tryz.func111 ?_;repeat' first|(refine gS ?_;simp only[go_sem])|refine gA ?_|(refine gD ?_ ?_<;>intro h<;>try exact aD h)|fail
 refine tH 2 ?_;unfold mZ;repeat' first|(refine gS ?_;simp only[go_sem])|refine gA ?_|(refine gD ?_ ?_<;>intro h<;>try exact aD h)|fail
 refine yD (ι:=Unit) (fun _=>[(3,.int .u32 (aBY s)),(7,.sl f [.str s]),(8,.int .i64 1),(9,.int .i64 0)]) (fun _=>H) (fun _=>True) ?_ fun _ _=>?_
 ·refine aH (ι:=Nat) (fun i=>[(3,.int .u32 ((s.take i).foldl xY 4294967295)),(5,.str s),(7,.sl f [.str s]),(8,.int .i64 1),(9,.int .i64 0),(14,.int .i64 s.length),(15,.int .i64 i)]) (fun _=>H) (fun i=>i≤s.length) (fun i=>s.length-i) 0 (zAv _) ?_ rfl ?_
  ·simp[go_sem]
  intro i hi;by_cases hlt:i<s.length
  ·have hli:decide ((i:Int)<(s.length:Int))=true:=dT;have hw:=cA hlt (by omega)
   have hgd:s.getD i 0=s[i]:=by simp[hlt]
   have ha:=aJF ((s.take i).foldl xY 4294967295) s[i];repeat' first|(refine gS ?_;simp only[go_sem,hli,hgd,hw,hlt])|refine gA ?_|(refine gD ?_ ?_<;>intro h<;>try exact aD h)|fail
   exact⟨i+1,hlt,by omega,by rw[zAl hlt,List.foldl_append];rfl,rfl⟩
  ·have hie:i=s.length:=by omega
   subst hie;repeat' first|(refine gS ?_;simp only[go_sem,hlt])|refine gA ?_|(refine gD ?_ ?_<;>intro h<;>try exact aD h)|fail
   exact⟨(),by rw[zAG];rfl⟩
 ·have hw:IntKind.i64.wrap (0+1)=1:=rfl;repeat' first|(refine gS ?_;simp only[go_sem,hw])|refine gA ?_|(refine gD ?_ ?_<;>intro h<;>try exact aD h)|fail
  exact cU (.of rfl)
theorem aJH(s:Txt)(hs:s.length≤1073741824)(H:AHeap):bJ Tryz.prog 73 [.str s] H (.str (lW s)):=by
 refine fO Tryz.func73 ?_;have h1:=aJG s true hs;have h2:=aD7 (aBY s);have h3:(aGm (aBY s)).length=4:=rfl;repeat' first|(refine gS ?_;simp only[go_sem,h3])|refine gA ?_|(refine gD ?_ ?_<;>intro h<;>try exact aD h)|fail
 exact cU (.of rfl)
end Go.Proofs.YtigedpfipifefaaGreatDoor
