/- What the functions of this seat answer (21 of 53). No condition. -/
import Derived.Test.YtnmamncmpklliaaGreatDoorWorkAQ
set_option linter.unusedSimpArgs false
set_option linter.unusedVariables false
set_option maxRecDepth 100000
set_option maxHeartbeats 16000000
namespace Go.Proofs.YtnmamncmpklliaaGreatDoor
open Go.Proofs.Tryz
theorem Wg(n:Int)(H:ab):aM prog 156 [.int .u32 n] H (.str<|u9 n):=by
 refine aZ func156 ?_;refine aW ?_;exact bD<|.of rfl
theorem U2(k:Nat)(n:Int):zO (k+1) n=zO k (su n):=rfl
theorem aE2(n:Int):zO 0 n=n:=rfl
theorem aE3(o:BinOp)(a b:Int):0<=na o .u32 a b/\na o .u32 a b<=4294967295:=by
 unfold na;simp only[IntKind.wrap,IntKind.signed,IntKind.bits];split<;>simp<;>omega
theorem aKU(n:Int)(c:UInt8)(H:ab):aM prog 197 [.int .u32 n,.int .u8 c.toNat] H (.int .u32<|zS n c):=by
 refine aZ func197 ?_;have O:∀m:Int,0<=m->m<=4294967295->m.fdiv (2 ^ min 31 32)=0\/m.fdiv (2 ^ min 31 32)=1:=λm aw h1=>by
  rw[Int.fdiv_eq_ediv_of_nonneg _ l9]
  simp;omega
 have K:=aE3;iterate 2 first|(refine ae ?_;simp only[go_sem])|refine ao ?_|fail
 refine aCX (ι:=Int×Nat) 0 (λs=>[(0,.int .u32 s.1),(4,.int .u32 0),(5,.int .i64 s.2)]) (λ_=>H) (λs=>1<=s.2/\s.2<=8/\0<=s.1/\s.1<=4294967295/\zO s.2 s.1=zS n c) (λs=>s.2) (by rfl) (by rfl) ?_ ?_
 ·obtain⟨m,hm⟩:∃m,m=na .xor .u32 n (IntKind.u32.wrap<|IntKind.u32.wrap c.toNat * 2 ^ min 24 32):=⟨_,rfl⟩;have J:=O m (by rw[hm];exact(K ..).1)<|by rw[hm];exact(K ..).2
  have hs:zO 7 (su m)=zS n c:=by rw[zS,<-hm];exact(U2 7 m).symm
  have U:0<=su m/\su m<=4294967295:=by unfold su;exact K ..
  have hw:IntKind.i64.wrap (8-1)=((7:Nat):Int):=rfl;have e:=su.eq_1 m;rcases J with J|J;all_goals
   rw[J]at e;repeat' first|(refine ae ?_;simp only[go_sem,<-hm,J,hw])|refine ao ?_|fail
   exact Wx ⟨rfl,(su m,7),⟨kk,kk,U.1,U.2,hs⟩,by rw[e];simp[go_sem],rfl⟩
 ·rintro⟨m,k⟩ ⟨h1,h2,h3,h4,T⟩;simp only at h1 h2 h3 h4 T;obtain⟨q,rfl⟩:∃q,k=q+1:=⟨k-1,iV⟩
  have hs:zO q (su m)=zS n c:=by rw[<-T,U2]
  have U:0<=su m/\su m<=4294967295:=by unfold su;exact K ..
  have hw:IntKind.i64.wrap (((q+1:Nat):Int)-1)=(q:Int):=by rw[bI];omega
  have e:=su.eq_1 m;rcases O m h3 h4 with J|J;all_goals
   rw[J]at e;by_cases aJ:q=0
   ·subst aJ;refine hH ?_;exact bD<|.of (by rw[<-hs,aE2,e];rfl)
   ·have hd:decide ((0:Int)<(q:Int))=true:=cK;refine hH ?_;exact Wx ⟨rfl,(su m,q),⟨⟨by simp only;omega,by simp only;omega,U.1,U.2,hs⟩,by simp only;omega⟩,by rw[e];simp[go_sem],rfl⟩
theorem XW(s:ag)(f:Bool)(hs:s.length<=1073741824)(H:ab):aM prog 157 [.sl f [.str s]] H (.int .u32<|tI s):=by
 refine aZ func157 ?_;refine aW ?_;refine sW 2 ?_;unfold qc;repeat' first|(refine ae ?_;simp only[go_sem])|refine ao ?_|fail
 refine Wa (ι:=Unit) (λ_=>[(3,.int .u32<|tI s),(7,.sl f [.str s]),(8,.int .i64 1),(9,.int .i64 0)]) (λ_=>H) (λ_=>True) ?_ λ_ _=>?_
 ·refine cE (ι:=Nat) (λi=>[(3,.int .u32<|(s.take i).foldl zS 4294967295),(5,.str s),(7,.sl f [.str s]),(8,.int .i64 1),(9,.int .i64 0),(14,.int .i64 s.length),(15,.int .i64 i)]) (λ_=>H) (λi=>i<=s.length) (λi=>s.length-i) 0 (bW _) ?_ rfl ?_
  ·simp[go_sem]
  intro i hi;by_cases J:i<s.length
  ·have K:decide ((i:Int)<(s.length:Int))=true:=cK;have hw:=dA J iV
   have O:s.getD i 0=s[i]:=by simp[J]
   have T:=aKU ((s.take i).foldl zS 4294967295) s[i];refine hH ?_;exact⟨i+1,J,iV,by rw[fj J,u0];rfl,rfl⟩
  ·have U:i=s.length:=iV
   subst U;refine hH ?_;exact⟨(),by rw[eG];rfl⟩
 ·have hw:IntKind.i64.wrap (0+1)=1:=rfl;refine hH ?_;exact bD<|.of rfl
theorem aKV(s:ag)(hs:s.length<=1073741824)(H:ab):aM prog 110 [.str s] H (.str<|o3 s):=by
 refine aZ func110 ?_;have h1:=XW s true hs;have h2:=Wg<|tI s;have h3:(u9 (tI s)).length=4:=rfl;refine hH ?_;exact bD<|.of rfl
@[go_sem] theorem aUy{ι:Type}(F:ι->a7)(U:ι->ab)(pre:ι->Prop)(Q:cX)(J:List PanicEntry)(α:a7)(H:ab):yk F U pre Q (.panic J) α H=Q (.panic J) α H:=rfl
def aDK:List cu:=[.free,.pure 0,.pure 0,.eff [true,true],.eff [true,true],.eff [false,false]]
def aDL:List cu:=[.pure 0,.pure 0,.pure 0,.eff [true,true,false],.eff [false,false],.eff []]
attribute [go_sem] aDK aDL
end Go.Proofs.YtnmamncmpklliaaGreatDoor
