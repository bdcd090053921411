/- What the functions of this seat answer (35 of 40). No condition. -/
import Derived.Test.YtigedpfipifefaaGreatDoorWorkBG
set_option linter.unusedSimpArgs false
set_option linter.unusedVariables false
set_option maxRecDepth 100000
set_option maxHeartbeats 16000000
namespace Go.Proofs.YtigedpfipifefaaGreatDoor
def aEn(a b:Txt):Int:=if pV a b=true then-1 else if pV b a=true then 1 else 0
theorem aNG(a b:Txt):decide (aEn a b<0)=pV a b:=by
 unfold aEn;cases h:pV a b with
 |true=>rfl
 |false=>
  rw[zAk (by simp)]
  split<;>rfl
theorem aEo(a:Int)(H:AHeap):bJ Tryz.prog 227 [.int .i32 a] H (.bool false):=by
 refine fO Tryz.func227 ?_;have h0:decide (a=a)=true:=zAg rfl;repeat' first|(refine gS ?_;simp only[go_sem,h0])|refine hU ?_|fail
 exact cU (.of (by simp))
def yO(a b:Int):Int:=if a<b then-1 else if b<a then 1 else 0
theorem aJR(a b:Int)(H:AHeap):bJ Tryz.prog 184 [.int .i32 a,.int .i32 b] H (.int .i64 (yO a b)):=by
 refine fO Tryz.func184 ?_;unfold yO;repeat' first|((first|refine gQ (aEo _) ?_|refine gS ?_);simp only[go_sem])|refine gA ?_|(refine gD ?_ ?_<;>intro h<;>try exact aD h)|fail
 all_goals exact cU (.of (zA5 _ (by simp only[zAz,zA2]at *;(repeat' split)<;>omega)))
def vW(s:Txt)(k:Nat):ABlk:=.cells 1 (((s.take k).map fun b=>AV.int .i32 ((b.toNat:Int)+1114112))++List.replicate (s.length-k) (AV.int .i32 0))
theorem aBl(s:Txt)(hs:s.length≤1073741824)(H:AHeap):bJ Tryz.prog 155 [.str s] H (.sl false ((bG s).map nR)):=by
 refine fO Tryz.func155 ?_;have hsp:=aAY s hs;unfold bG;cases hc:kE s with
 |some l=>
  rw[hc]at hsp;simp only[rF]at hsp;repeat' first|(refine gS ?_;simp only[go_sem])|refine hU ?_|fail
  exact aHo (.sl _ _ fun e he=>by obtain⟨x,_,rfl⟩:=zAi.1 he;exact .int _ _) (.refl _)
 |none=>
  rw[hc]at hsp;simp only[rF]at hsp;repeat' first|(refine gS ?_;simp only[go_sem])|refine hU ?_|fail
  refine aH (ι:=Nat) (fun k=>[(0,.str s),(3,.osl 1 H.length 1 0 k s.length),(17,.int .i64 s.length),(18,.int .i64 k)]) (fun k=>H++[vW s k]) (fun k=>k≤s.length) (fun k=>s.length-k) 0 (zAv _) ?_ (by simp[vW,wV]) ?_
  ·simp[go_sem]
  intro k hk;by_cases hlt:k<s.length
  ·have hli:decide ((k:Int)<(s.length:Int))=true:=dT;have hgd:s.getD k 0=s[k]:=by simp[zAm,hlt]
   have hb:=s[k].toNat_lt;have hw1:IntKind.i32.wrap ((s[k].toNat:Nat):Int)=((s[k].toNat:Nat):Int):=by simp[IntKind.wrap,IntKind.bits,IntKind.signed];omega
   have hw2:IntKind.i32.wrap (1114111+((s[k].toNat:Nat):Int))=1114111+((s[k].toNat:Nat):Int):=by simp[IntKind.wrap,IntKind.bits,IntKind.signed];omega
   have hw3:IntKind.i32.wrap (1114111+((s[k].toNat:Nat):Int)+1)=((s[k].toNat:Nat):Int)+1114112:=by simp[IntKind.wrap,IntKind.bits,IntKind.signed];omega
   have hw4:IntKind.i64.wrap ((k:Int)+1)=((k+1:Nat):Int):=aB (by omega) (by omega)
   have hne:(k=s.length)=False:=eq_false (by omega)
   obtain⟨m,hm⟩:∃m,s.length-k=m+1:=⟨s.length-k-1,by omega⟩
   have hm2:s.length-(k+1)=m:=by omega
   have hsr:=mI ((s.take k).map fun b=>AV.int .i32 ((b.toNat:Int)+1114112)) m (.int .i32 0) (.int .i32 ((s[k].toNat:Int)+1114112))
   rw[zAs,zAX,Nat.min_eq_left hk]at hsr;have hq:(∀e,e=AV.int .i32 ((s[k].toNat:Int)+1114112)→e.cells.length=1)=True:=zBf fun e he=>by rw[he];rfl
   unfold vW;rw[hm];repeat' first|(refine gS ?_;simp only[go_sem,hli,hgd,hw1,hw2,hw3,hw4,hne,hq,zAo,hsr])|refine hU ?_|fail
   exact⟨k+1,hlt,by omega,⟨rfl,rfl⟩,by rw[hm2,zAl hlt,List.map_append,zAe];rfl⟩
  ·have hke:k=s.length:=by omega
   subst hke;have hli:decide ((s.length:Int)<(s.length:Int))=false:=by simp
   unfold vW;repeat' first|(refine gS ?_;simp only[go_sem,hli])|refine hU ?_|fail
   rw[zAG];exact jT (es:=(s.map fun b=>((b.toNat:Int)+1114112)).map nR) (rest:=List.replicate (s.length-s.length) (AV.int .i32 0)) (zAb _) (by simp only[go_sem];rfl) (by rw[Nat.sub_self,List.replicate_zero];congr 1;rw[zBC,zBR];exact List.map_eq_flatMap ..) (by simp) (fun e he=>by obtain⟨c,_,rfl⟩:=zAi.1 he;rfl) (fun e he=>by obtain⟨c,_,rfl⟩:=zAi.1 he;exact .int _ _) rfl
theorem aGH(b1 b2:Bool)(l m:List Int)(H:AHeap):bJ Tryz.prog 154 [.sl b1 (l.map nR),.sl b2 (m.map nR)] H (.int .i64 (eJ l m)):=by
 refine pO fun hok _=>?_
 have hl:=tA hok;rw[zAs]at hl;refine fO Tryz.func154 ?_;obtain⟨X,hX⟩:∃X,eJ l m=X:=⟨_,rfl⟩;rw[hX];repeat' first|(refine gS ?_;simp only[go_sem])|refine hU ?_|fail
 refine aH (ι:=Nat) (fun k=>[(0,.sl b1 (l.map nR)),(1,.sl b2 (m.map nR)),(9,.sl b1 (l.map nR)),(10,.int .i64 l.length),(11,.int .i64 k)]) (fun _=>H) (fun k=>k≤l.length∧k≤m.length∧eJ (l.drop k) (m.drop k)=X) (fun k=>l.length-k) 0 ⟨zAv _,zAv _,by simpa using hX⟩ ?_ rfl ?_
 ·simp[go_sem]
 rintro k ⟨h1,h2,h3⟩;by_cases hlt:k<l.length
 ·have hli:decide ((k:Int)<(l.length:Int))=true:=dT;have hp:=bO nR hlt;have hw:IntKind.i64.wrap ((k:Int)+1)=((k+1:Nat):Int):=by rw[wI];rfl
  rw[zA4 hlt]at h3;by_cases hm:k<m.length
  ·have hli2:decide ((m.length:Int)≤(k:Int))=false:=dF;have hq:=bO nR hm;have hc:=aJR l[k] m[k];rw[zA4 hm,eJ]at h3;by_cases hne:yO l[k] m[k]=0
   ·have hz:decide (yO l[k] m[k]=0)=true:=zAg hne;have:¬l[k]<m[k]∧¬m[k]<l[k]:=by unfold yO at hne;(repeat' split at hne)<;>omega
    rw[zAk this.1,zAk this.2]at h3;repeat' first|(refine gS ?_;simp only[go_sem,hli,hli2,hp,hq,hz,hw,nR])|refine hU ?_|fail
    exact⟨k+1,⟨hlt,hm,h3⟩,by omega,rfl⟩
   ·have hz:decide (yO l[k] m[k]=0)=false:=zAh hne;have:yO l[k] m[k]=X:=by rw[←h3];unfold yO at hne ⊢;(repeat' split)<;>first|rfl|omega
    repeat' first|(refine gS ?_;simp only[go_sem,hli,hli2,hp,hq,hz,nR])|refine hU ?_|fail
    exact cU (.of (by rw[this]))
  ·have hli2:decide ((m.length:Int)≤(k:Int))=true:=dT;rw[show m.drop k=[]from zBj (by omega),eJ]at h3
   repeat' first|(refine gS ?_;simp only[go_sem,hli,hli2,hp,nR])|refine hU ?_|fail
   exact cU (.of (by rw[←h3]))
 ·have hli:decide ((k:Int)<(l.length:Int))=false:=dF;rw[show l.drop k=[]from zBj (by omega)]at h3
  by_cases hm:l.length<m.length
  ·have hli2:decide ((l.length:Int)<(m.length:Int))=true:=dT;rw[zA4 (show k<m.length by omega),eJ]at h3
   repeat' first|(refine gS ?_;simp only[go_sem,hli,hli2])|refine hU ?_|fail
   exact cU (.of (by rw[←h3]))
  ·have hli2:decide ((l.length:Int)<(m.length:Int))=false:=dF;rw[show m.drop k=[]from zBj (by omega),eJ]at h3
   repeat' first|(refine gS ?_;simp only[go_sem,hli,hli2])|refine hU ?_|fail
   exact cU (.of (by rw[←h3]))
theorem aBm(a b:Txt)(ha:a.length≤1073741824)(hb:b.length≤1073741824)(H:AHeap):bJ Tryz.prog 104 [.str a,.str b] H (.bool (pV a b)):=by
 refine fO Tryz.func104 ?_;have h1:=aBl a ha;have h2:=aBl b hb;have h3:=aGH false false (bG a) (bG b);repeat' first|(refine gS ?_;simp only[go_sem])|refine hU ?_|fail
 exact cU (.refl _)
theorem aCk(a b:Txt)(ha:a.length≤1073741824)(hb:b.length≤1073741824)(H:AHeap):bJ Tryz.prog 103 [.str a,.str b] H (.int .i64 (aEn a b)):=by
 refine fO Tryz.func103 ?_;have h1:=aBm a b ha hb;have h2:=aBm b a hb ha;unfold aEn;repeat' first|(refine gS ?_;simp only[go_sem])|refine gA ?_|(refine gD ?_ ?_<;>intro h<;>try exact aD h)|fail
 all_goals exact cU (.of (by simp_all))
theorem aJS:nJ Tryz.prog (.func (.func 103) [] []) (fun a b=>aEn a.1 b.1):=fun a b H=>.inl ⟨(cO),aCk a.1 b.1 a.2 b.2 H⟩
end Go.Proofs.YtigedpfipifefaaGreatDoor
