/- What the functions of this seat answer (21 of 40). No condition. -/
import Derived.Test.YtigedpfipifefaaGreatDoorWorkAQ
set_option linter.unusedSimpArgs false
set_option linter.unusedVariables false
set_option maxRecDepth 100000
set_option maxHeartbeats 16000000
namespace Go.Proofs.YtigedpfipifefaaGreatDoor
theorem aB5{k p:Int}(h:eR k=some p):p=0∨p=1∨p=3∨p=4∨p=5∨p=8∨p=9:=by
 unfold eR at h
 (repeat' split at h)<;>first|(cases h;omega)|cases h
theorem aJI(b:Txt)(c:Cal)(hp:c.path.length≤1048576)(ht:c.to.length≤1048576)(hd:c.data.length≤1048576)(hn:c.n≤9223372036854775807)(hb:b.length≤1048576)(H:AHeap):
  bJ Tryz.prog 69 [.str b,pB c] H (if chkC c=true then .tup [.str (b++pN c),.int .i64 0]else .tup [.str [],.int .i64 180]):=by
 refine fO Tryz.func69 ?_;have hc:=rO c hp ht;obtain⟨kd,pa,to,da,n⟩:=c;simp only at hp ht hd hn;unfold pB at hc ⊢;simp only at hc ⊢;obtain⟨B,hB⟩:∃B,B=chkC ⟨kd,pa,to,da,n⟩:=⟨_,rfl⟩;rw[←hB]at hc ⊢;cases B with
 |false=>
  repeat' first|(refine gS ?_;simp only[go_sem])|refine gA ?_|(refine gD ?_ ?_<;>intro h<;>try exact aD h)|fail
  exact dY (.of (by simp))
 |true=>
  have hk':=hB.symm;unfold chkC at hk';cases hq:eR kd with
  |none=>simp only[hq]at hk';cases hk'
  |some p=>
   simp only[hq,zAc]at hk';obtain⟨f1,f2,f3,f4⟩:=hk';obtain⟨k1,k2⟩:=lJ hq;have hh:=aAi kd;rw[hq]at hh;simp only[Option.getD_some,Option.isSome_some]at hh;obtain⟨k,hkk⟩:∃k:Nat,kd=k:=⟨kd.toNat,by omega⟩
   have hput:pN ⟨kd,pa,to,da,n⟩=aV k++(kZ p 1 pa++(kZ p 2 to++(kZ p 4 da++iE p n))):=by unfold pN;simp only[hq];rw[show kd.toNat=k by omega]
   subst hkk;have hnn:=fX k (by omega)
   unfold bL at hnn;have hs:=kC b k true (by omega) (by omega)
   have hpl:∀(t y:Txt),t.length≤1048576→y.length≤4194304→∀H,bJ Tryz.prog 17 [.str y,.str t] H (.str (y++bW t)):=fun t y h1 h2=>rS y t (by omega) (by omega) (by omega)
   have hL:∀t:Txt,t.length≤1048576→(bW t).length≤1048585:=fun t h=>by
    have:=fX t.length (by omega)
    unfold bL at this;unfold bW;simp;omega
   have hLp:=hL pa hp;have hLt:=hL to ht;have hLd:=hL da hd;rcases aB5 hq with rfl|rfl|rfl|rfl|rfl|rfl|rfl
   ·have e1:aY .and .i64 0 1=0:=rfl;have e2:aY .and .i64 0 2=0:=rfl;have e4:aY .and .i64 0 4=0:=rfl;have e8:aY .and .i64 0 8=0:=rfl;repeat' first|(refine gS ?_;simp only[go_sem,e1,e2,e4,e8])|refine gA ?_|(refine gD ?_ ?_<;>intro h<;>try exact aD h)|fail
    exact dY (.of (by rw[hput];simp[kZ,iE,e1,e2,e4,e8]))
   ·have e1:aY .and .i64 1 1=1:=rfl;have e2:aY .and .i64 1 2=0:=rfl;have e4:aY .and .i64 1 4=0:=rfl;have e8:aY .and .i64 1 8=0:=rfl;have x1:=hpl pa (b++aV k) hp (by simp;omega)
    have ct0:=x1;repeat' first|(refine gS ?_;simp only[go_sem,e1,e2,e4,e8])|refine gA ?_|(refine gD ?_ ?_<;>intro h<;>try exact aD h)|fail
    exact dY (.of (by rw[hput];simp[kZ,iE,e1,e2,e4,e8]))
   ·have e1:aY .and .i64 3 1=1:=rfl;have e2:aY .and .i64 3 2=2:=rfl;have e4:aY .and .i64 3 4=0:=rfl;have e8:aY .and .i64 3 8=0:=rfl;have x1:=hpl pa (b++aV k) hp (by simp;omega)
    have x2:=hpl to (b++(aV k++bW pa)) ht (by simp;omega)
    have ct0:=x1;have ct1:=x2;repeat' first|(refine gS ?_;simp only[go_sem,e1,e2,e4,e8])|refine gA ?_|(refine gD ?_ ?_<;>intro h<;>try exact aD h)|fail
    exact dY (.of (by rw[hput];simp[kZ,iE,e1,e2,e4,e8]))
   ·have e1:aY .and .i64 4 1=0:=rfl;have e2:aY .and .i64 4 2=0:=rfl;have e4:aY .and .i64 4 4=4:=rfl;have e8:aY .and .i64 4 8=0:=rfl;have x1:=hpl da (b++aV k) hd (by simp;omega)
    have ct0:=x1;repeat' first|(refine gS ?_;simp only[go_sem,e1,e2,e4,e8])|refine gA ?_|(refine gD ?_ ?_<;>intro h<;>try exact aD h)|fail
    exact dY (.of (by rw[hput];simp[kZ,iE,e1,e2,e4,e8]))
   ·have e1:aY .and .i64 5 1=1:=rfl;have e2:aY .and .i64 5 2=0:=rfl;have e4:aY .and .i64 5 4=4:=rfl;have e8:aY .and .i64 5 8=0:=rfl;have x1:=hpl pa (b++aV k) hp (by simp;omega)
    have x2:=hpl da (b++(aV k++bW pa)) hd (by simp;omega)
    have ct0:=x1;have ct1:=x2;repeat' first|(refine gS ?_;simp only[go_sem,e1,e2,e4,e8])|refine gA ?_|(refine gD ?_ ?_<;>intro h<;>try exact aD h)|fail
    exact dY (.of (by rw[hput];simp[kZ,iE,e1,e2,e4,e8]))
   ·have e1:aY .and .i64 8 1=0:=rfl;have e2:aY .and .i64 8 2=0:=rfl;have e4:aY .and .i64 8 4=0:=rfl;have e8:aY .and .i64 8 8=8:=rfl;have h0:0≤n:=by unfold jJ at f4;simpa[e8]using f4
    obtain⟨m,rfl⟩:∃m:Nat,n=m:=⟨n.toNat,by omega⟩
    have y1:=kC (b++aV k) m true (by omega) (by simp;omega)
    have ct0:=y1;repeat' first|(refine gS ?_;simp only[go_sem,e1,e2,e4,e8])|refine gA ?_|(refine gD ?_ ?_<;>intro h<;>try exact aD h)|fail
    exact dY (.of (by rw[hput];simp[kZ,iE,e1,e2,e4,e8]))
   ·have e1:aY .and .i64 9 1=1:=rfl;have e2:aY .and .i64 9 2=0:=rfl;have e4:aY .and .i64 9 4=0:=rfl;have e8:aY .and .i64 9 8=8:=rfl;have x1:=hpl pa (b++aV k) hp (by simp;omega)
    have h0:0≤n:=by unfold jJ at f4;simpa[e8]using f4
    obtain⟨m,rfl⟩:∃m:Nat,n=m:=⟨n.toNat,by omega⟩
    have y1:=kC (b++(aV k++bW pa)) m true (by omega) (by simp;omega)
    have ct0:=x1;have ct1:=y1;repeat' first|(refine gS ?_;simp only[go_sem,e1,e2,e4,e8])|refine gA ?_|(refine gD ?_ ?_<;>intro h<;>try exact aD h)|fail
    exact dY (.of (by rw[hput];simp[kZ,iE,e1,e2,e4,e8]))
end Go.Proofs.YtigedpfipifefaaGreatDoor
