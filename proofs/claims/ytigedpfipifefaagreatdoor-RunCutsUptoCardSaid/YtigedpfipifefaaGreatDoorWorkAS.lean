/- What the functions of this seat answer (19 of 40). No condition. -/
import Derived.Test.YtigedpfipifefaaGreatDoorWorkAQ
set_option linter.unusedSimpArgs false
set_option linter.unusedVariables false
set_option maxRecDepth 100000
set_option maxHeartbeats 16000000
namespace Go.Proofs.YtigedpfipifefaaGreatDoor
def rT:List Pl:=[.free,.free,.pure 0,.pure 0,.free,.free,.free,.pure 0,.eff [false,false,true]]
attribute [go_sem] rT
theorem aBd(s:Txt)(hs:s.length≤1073741824)(H:AHeap):bJ Tryz.prog 115 [.str s] H (.int .i64 (aS s)):=by
 refine fO Tryz.func115 ?_;have h1:IntKind.i64.wrap ((s.length:Int)+16)=((s.length+16:Nat):Int):=by rw[wI];rfl
 have h2:IntKind.i64.wrap (((s.length+16:Nat):Int)-1)=((s.length+15:Nat):Int):=by rw[wI];omega
 repeat' first|(refine gS ?_;simp only[go_sem,h1,h2])|refine gA ?_|(refine gD ?_ ?_<;>intro h<;>try exact aD h)|fail
 exact cU (.of (by rw[zAI (by omega),wI];unfold aS;simp))
theorem aJC(n:Int)(H:AHeap):bJ Tryz.prog 45 [.int .i64 n] H (sO true (vM n)):=by
 refine fO Tryz.func45 ?_;obtain⟨z,hz⟩:∃z:Nat,min (max n 0) 65536=(z:Int):=⟨(min (max n 0) 65536).toNat,by omega⟩
 have hz2:z≤65536:=by omega
 have h1:IntKind.i64.wrap ((z:Int) * 16)=((z * 16:Nat):Int):=by rw[wI];omega
 unfold vM;rw[hz];repeat' first|(refine gS ?_;simp only[go_sem,hz,h1])|refine gA ?_|(refine gD ?_ ?_<;>intro h<;>try exact aD h)|fail
 exact dY (.of (by simp[sO]))
theorem aJD(f:Bool)(d:Dis)(hl:d.loose.length≤1073741824)(hf:d.firm.length≤1073741824)(H:AHeap):bJ Tryz.prog 113 [sO f d] H (.bool (chkK d)):=by
 refine fO Tryz.func113 ?_;repeat' first|(refine gS ?_;simp only[go_sem,sO])|refine gA ?_|(refine gD ?_ ?_<;>intro h<;>try exact aD h)|fail
 ·have hF:chkK d=false:=by
   rw[zBB];intro q;unfold chkK at q;simp only[zAc,zAz]at q;rw[wI]at h;simp at h;omega
  rw[hF];exact dY (.refl _)
 simp only[Bool.or_eq_false_iff,zA2,Bool.not_eq_false',zAz]at h;rw[wI]at h;have hk:chkK d=d.loose.all (lA d.size):=by unfold chkK;rw[zAg (by omega:0≤d.size),zAg (by omega:d.size≤65536),zAg h.2];rfl
 rw[hk];refine aH (ι:=Nat×AHeap) (fun s=>[(1,.ref H.length 0 0),(2,.bool false),(23,.sl f (d.loose.map iH)),(24,.int .i64 d.loose.length),(25,.int .i64 s.1)]) (fun s=>H++(.cells 0 [.int .i64 d.size,.str d.firm,.sl f (d.loose.map iH)]::s.2)) (fun s=>s.1≤d.loose.length∧(d.loose.take s.1).all (lA d.size)=true) (fun s=>d.loose.length-s.1) (0,[]) ⟨zAv _,by simp⟩ ?_ rfl ?_
 ·simp[go_sem]
 rintro⟨q,M⟩ ⟨hq,hc⟩;simp only at hq hc ⊢;by_cases hlt:q<d.loose.length
 ·have hp:=bO iH hlt;have hli:decide ((q:Int)<(d.loose.length:Int))=true:=dT;have m1:∀x:ABlk,(M++[x]).getD M.length .gone=x:=fun x=>by simp
  have m2:∀x y:ABlk,(M++[x]).set M.length y=M++[y]:=fun x y=>by simp
  have hw:=cA hlt (by omega)
  have hs:(d.loose.take (q+1)).all (lA d.size)=lA d.size d.loose[q]:=by rw[zAl hlt,zBZ,hc];simp
  have hn:lA d.size d.loose[q]=false→d.loose.all (lA d.size)=false:=fun e=>by
   rw[zBB];intro w;have:=zAx.1 w _ (zAK hlt);rw[e]at this;cases this
  generalize d.loose[q]=p at *;repeat' first|(refine gS ?_;simp only[go_sem,hp,hli,iH,m1,m2])|refine gA ?_|(refine gD ?_ ?_<;>intro h<;>try exact aD h)|fail
  ·rw[hn (by unfold lA;simp at *;omega)]
   exact dY (.refl _)
  ·refine⟨(q+1,M++[_]),⟨hlt,?_⟩,by simp only;omega,zA5 _ hw,rfl⟩
   simp only;rw[hs];unfold lA;simp at *;omega
 ·have hie:q=d.loose.length:=by omega
  subst hie;rw[zAG]at hc;repeat' first|(refine gS ?_;simp only[go_sem,hlt])|refine gA ?_|(refine gD ?_ ?_<;>intro h<;>try exact aD h)|fail
  rw[hc];exact dY (.refl _)
structure KS (d:Dis):Prop where
 ok:chkK d=true
 few:d.loose.length≤1000000
theorem KS.size{d:Dis}(h:KS d):0≤d.size∧d.size≤65536∧(d.firm.length:Int)=d.size * 16∧∀p∈d.loose,0≤p.at_∧p.at_<d.size∧p.data.length=16:=by
 have:=h.ok;unfold chkK at this;simp only[zAc,zAz,zAx]at this;refine⟨this.1,this.2.1,this.2.2.1,fun p hp=>?_⟩
 have:=this.2.2.2 p hp;unfold lA at this;simpa using this
theorem aBe(f:Bool){d:Dis}(h:KS d)(H:AHeap):bJ Tryz.prog 113 [sO f d] H (.bool true):=by
 have hs:=h.size;have:=h.few;have hc:=aJD f d (by omega) (by omega) H
 rwa[h.ok]at hc
theorem yE(s:Txt):(gM s).length=aS s:=by unfold gM;simp
theorem rU(s:Txt):(vL s).length=16:=by unfold vL;simp[fA];omega
def oL(s:Txt)(i:Nat):Txt:=(List.range i).flatMap (fun k=>vL (s.drop (k * 16)))++fA ((aS s-i) * 16)
theorem yF(s:Txt)(i:Nat):((List.range i).flatMap fun k=>vL (s.drop (k * 16))).length=i * 16:=by
 induction i with
 |zero=>rfl
 |succ i ih=>rw[List.range_succ,zBi,zAa,ih];simp[rU];omega
theorem aB1(s:Txt)(i:Nat)(h:i<aS s):
  (oL s i).take (i * 16)++((s.drop (i * 16)).take 16++(oL s i).drop (i * 16+((s.drop (i * 16)).take 16).length))=oL s (i+1):=by
 have hl:=yF s i;unfold oL;rw[List.range_succ,zBi];obtain⟨u,hu⟩:∃u,u=(s.drop (i * 16)).take 16:=⟨_,rfl⟩;have hp:(List.flatMap (fun k=>vL (s.drop (k * 16))) [i])=u++fA (16-(s.drop (i * 16)).length):=by simp[vL,hu]
 have hul:u.length=min 16 (s.drop (i * 16)).length:=by rw[hu,zAX]
 rw[hp,←hu];generalize(List.range i).flatMap (fun k=>vL (s.drop (k * 16)))=A at *
 rw[←hl,List.take_left,←List.drop_drop,List.drop_left,zAe,zAe];congr 2;unfold fA;rw[List.drop_replicate,List.replicate_append_replicate];congr 1;have:aS s-i=aS s-(i+1)+1:=by omega
 rw[this,zBF,hul];simp only[zBa,hl]at *;omega
theorem aB2(s:Txt):bA (oL s (aS s))=((gM s).map fun t=>AV.agg (bA t)).flatMap AV.cells:=by
 unfold oL gM;rw[Nat.sub_self,Nat.zero_mul,zBR,zBR];simp only[AV.cells,fA,List.replicate_zero,zAj];unfold bA;rw[List.map_flatMap]
theorem aJE(s:Txt)(hs:s.length≤1073741824)(H:AHeap):bJ Tryz.prog 116 [.str s] H (.sl false ((gM s).map fun t=>AV.agg (bA t))):=by
 refine fO Tryz.func116 ?_;have hm:=aBd s hs;have hmk:aS s≤67108864:=by unfold aS;omega
 repeat' first|(refine gS ?_;simp only[go_sem])|refine gA ?_|(refine gD ?_ ?_<;>intro h<;>try exact aD h)|fail
 refine aH (ι:=Nat) (fun i=>[(0,.str s),(3,.osl 16 H.length 1 0 (aS s) (aS s)),(9,.int .i64 (aS s)),(10,.int .i64 i)]) (fun i=>H++[.cells 1 (bA (oL s i))]) (fun i=>i≤aS s) (fun i=>aS s-i) 0 (zAv _) ?_ ?_ ?_
 ·simp[go_sem]
 ·simp[oL]
 intro i hi;by_cases hlt:i<aS s
 ·have hli:decide ((i:Int)<(aS s:Int))=true:=dT;have hw:=cA hlt (by omega)
  have hw6:IntKind.i64.wrap ((i:Int) * 16)=((i * 16:Nat):Int):=by rw[wI];omega
  have hle:i * 16≤s.length:=by unfold aS at hlt;omega
  have hdl:(oL s i).length=aS s * 16:=by unfold oL;rw[zAa,yF,lK,←zBF];congr 1;omega
  have hsp:=tX (oL s i) ((s.drop (i * 16)).take 16) (i * 16);rw[aB1 s i hlt]at hsp;generalize oL s i=T at *;repeat' first|((first|refine mx [5] rT ?_|refine gS ?_);simp only[go_sem,hli,hw6,hsp])|refine gA ?_|(refine gD ?_ ?_<;>intro h<;>try exact aD h)|fail
  exact⟨i+1,hlt,by omega,zA5 _ hw,rfl⟩
 ·have hie:i=aS s:=by omega
  subst hie;have hli:decide ((aS s:Int)<(aS s:Int))=false:=by simp
  repeat' first|(refine gS ?_;simp only[go_sem,hli])|refine gA ?_|(refine gD ?_ ?_<;>intro h<;>try exact aD h)|fail
  exact jT (cs:=bA (oL s (aS s))) (es:=(gM s).map fun t=>AV.agg (bA t)) (rest:=[]) (zAb _) (by simp only[go_sem]) (by rw[zAj];exact aB2 s) (by rw[zAs,yE])
   (fun e he=>by obtain⟨t,ht,rfl⟩:=zAi.1 he;obtain⟨k, -,rfl⟩:=zAi.1 ht;exact(fS _).trans (rU _)) (fun e he=>by obtain⟨t, -,rfl⟩:=zAi.1 he;exact .agg _ fun x hx=>by obtain⟨b, -,rfl⟩:=zAi.1 hx;exact .int _ _) rfl
end Go.Proofs.YtigedpfipifefaaGreatDoor
