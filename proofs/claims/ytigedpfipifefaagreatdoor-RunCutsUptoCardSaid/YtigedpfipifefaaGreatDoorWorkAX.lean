/- What the functions of this seat answer (24 of 40). No condition. -/
import Derived.Test.YtigedpfipifefaaGreatDoorWorkAS
set_option linter.unusedSimpArgs false
set_option linter.unusedVariables false
set_option maxRecDepth 100000
set_option maxHeartbeats 16000000
namespace Go.Proofs.YtigedpfipifefaaGreatDoor
theorem aB6{t s:Txt}{off:Nat}(h:off+s.length≤t.length):(tY t off s).length=t.length:=by
 unfold tY;simp only[zAa,zAX,zBa];omega
def pF(a n:Nat)(t:Txt)(p:Pat):Txt:=if(a:Int)≤p.at_∧p.at_<a+n then tY t ((p.at_.toNat-a) * 16) p.data else t
theorem aD8(d:Dis)(a n:Nat):aD4 d a n=d.loose.foldl (pF a n) ((d.firm.drop (a * 16)).take (n * 16)):=rfl
def pG:List Pl:=[.free,.pure 0,.pure 0,.free,.free,.free,.pure 0,.pure 0,.pure 0,.eff [false,true,false,true,true]]
def pH:List Pl:=[.pure 0,.pure 0,.pure 0,.pure 0,.pure 0,.pure 0,.free,.eff [false,false,false,false,false,false]]
attribute [go_sem] pG pH
theorem aGs(f:Bool){d:Dis}(hk:KS d)(a n:Nat)(hn:((a+n:Nat):Int)≤d.size)(H:AHeap):bJ Tryz.prog 117 [sO f d,.int .i64 a,.int .i64 n] H (.str (aD4 d a n)):=by
 refine fO Tryz.func117 ?_;obtain⟨k1,k2,k3,k4⟩:=hk.size;have hfew:=hk.few;have w1:IntKind.i64.wrap ((a:Int) * 16)=((a * 16:Nat):Int):=by rw[wI];omega
 have w2:IntKind.i64.wrap ((a:Int)+(n:Int))=((a+n:Nat):Int):=by rw[wI];omega
 have w3:IntKind.i64.wrap (((a+n:Nat):Int) * 16)=(((a+n) * 16:Nat):Int):=by rw[wI];omega
 rw[aD8];have hdt:List.drop (a * 16) (List.take ((a+n) * 16) d.firm)=(d.firm.drop (a * 16)).take (n * 16):=by rw[List.drop_take];congr 1;omega
 obtain⟨T0,hT0⟩:∃T0,T0=(d.firm.drop (a * 16)).take (n * 16):=⟨_,rfl⟩;have hT0l:T0.length=n * 16:=by rw[hT0,zAX,zBa];omega
 rw[←hT0]at hdt ⊢;repeat' first|(refine gS ?_;simp only[go_sem,sO,w1,w2,w3,hdt,hT0l])|refine gA ?_|(refine gD ?_ ?_<;>intro h<;>try exact aD h)|fail
 obtain⟨T,hT⟩:∃T:Nat→Txt,∀q,T q=(d.loose.take q).foldl (pF a n) T0:=⟨_,fun _=>rfl⟩
 refine aH (ι:=Nat×AHeap) (fun s=>[(1,.int .i64 a),(2,.int .i64 n),(7,.osl 1 (H.length+1) 1 0 (n * 16) (n * 16)),(21,.sl f (d.loose.map iH)),(22,.int .i64 d.loose.length),(23,.int .i64 s.1)]) (fun s=>H++(.cells 0 [.int .i64 d.size,.str d.firm,.sl f (d.loose.map iH)]::.cells 1 (bA (T s.1))::s.2)) (fun s=>s.1≤d.loose.length∧(T s.1).length=n * 16) (fun s=>d.loose.length-s.1) (0,[]) ⟨zAv _,by rw[hT];simpa using hT0l⟩ ?_ (by rw[hT];rfl) ?_
 ·simp[go_sem,hT0l]
 rintro⟨q,M⟩ ⟨hq,hTl⟩;simp only at hq hTl ⊢;by_cases hlt:q<d.loose.length
 ·have hp:=bO iH hlt;have hli:decide ((q:Int)<(d.loose.length:Int))=true:=dT;have m1:∀x:ABlk,(M++[x]).getD M.length .gone=x:=fun x=>by simp
  have m2:∀x y:ABlk,(M++[x]).set M.length y=M++[y]:=fun x y=>by simp
  have hw:=cA hlt (by omega)
  have hTs:T (q+1)=pF a n (T q) d.loose[q]:=by rw[hT,hT,zAl hlt,List.foldl_append];rfl
  obtain⟨z1,z2,z3⟩:=k4 _ (zAK hlt);generalize d.loose[q]=p at *;obtain⟨P,hP⟩:∃P:Nat,p.at_=P:=⟨p.at_.toNat,by omega⟩
  by_cases hin:a≤P∧P<a+n
  ·have c1:decide ((a:Int)≤p.at_)=true:=dT;have c2:decide (p.at_<((a+n:Nat):Int))=true:=dT;have w4:IntKind.i64.wrap (p.at_-(a:Int))=((P-a:Nat):Int):=by rw[wI];omega
   have w5:IntKind.i64.wrap (((P-a:Nat):Int) * 16)=(((P-a) * 16:Nat):Int):=by rw[wI];omega
   have hz:(P-a) * 16+16≤n * 16:=by omega
   rw[show pF a n (T q) p=tY (T q) ((P-a) * 16) p.data by unfold pF;rw[zAp (by omega),hP];rfl]at hTs
   have hol:=aB6 (t:=T q) (s:=p.data) (off:=(P-a) * 16) (by omega)
   rw[←hTs,hTl]at hol;have hsp:=tX (T q) (p.data.take (n * 16-(P-a) * 16)) ((P-a) * 16);have htk:p.data.take (n * 16-(P-a) * 16)=p.data:=zAT (by omega)
   rw[htk]at hsp;have hov:(T q).take ((P-a) * 16)++(p.data++(T q).drop ((P-a) * 16+p.data.length))=T (q+1):=by rw[hTs];unfold tY;rw[hTl,htk]
   rw[hov]at hsp;generalize T q=U at *;generalize(P-a) * 16=O at *;repeat' first|((first|refine mx [6] pG ?_|refine gS ?_);simp only[go_sem,hp,hli,iH,m1,m2,c1,c2,w2,w4,w5,htk,hsp,z3])|refine gA ?_|(refine gD ?_ ?_<;>intro h<;>try exact aD h)|fail
   exact⟨(q+1,M++[_]),⟨hlt,hol⟩,by simp only;omega,zA5 _ hw,by rw[zAo,hsp]⟩
  ·have c1:(decide ((a:Int)≤p.at_)&&decide (p.at_<((a+n:Nat):Int)))=false:=by
    rw[Bool.and_eq_false_iff,zA2,zA2];omega
   rw[show pF a n (T q) p=T q by unfold pF;rw[zAk (by omega)]]at hTs
   repeat' first|(refine gS ?_;simp only[go_sem,hp,hli,iH,m1,m2,w2,c1])|refine gA ?_|(refine gD ?_ ?_<;>intro h<;>try exact aD h)|fail
   exact⟨(q+1,M++[.cells 0 [.int .i64 p.at_,.str p.data]]),⟨hlt,by simp only;rw[hTs];exact hTl⟩,by simp only;omega,zA5 _ hw,by rw[hTs]⟩
 ·have hie:q=d.loose.length:=by omega
  subst hie;rw[hT,zAG]at *;generalize d.loose.foldl (pF a n) T0=U at *;have ht16:List.take (n * 16 * 1) (bA U)=bA U:=zAT (by rw[fS];omega)
  have hl16:(n * 16 * 1≤U.length)=True:=zBf (by omega)
  repeat' first|(refine gS ?_;simp only[go_sem,hlt,ht16,hl16])|refine gA ?_|(refine gD ?_ ?_<;>intro h<;>try exact aD h)|fail
  exact dY (.refl _)
theorem aD9(f:Bool){d:Dis}(hk:KS d)(H:AHeap):bJ Tryz.prog 78 [sO f d] H (sO true (rR d)):=by
 refine fO Tryz.func78 ?_;obtain⟨k1,k2,k3,k4⟩:=hk.size;have hc:=aBe f hk;obtain⟨z,hz⟩:∃z:Nat,d.size=z:=⟨d.size.toNat,by omega⟩
 have hs:=aGs f hk 0 z (by omega)
 unfold rR sO at *;rw[show d.size.toNat=z by omega]
 rw[hz]at hc hs ⊢;repeat' first|((first|refine mx [3] pH ?_|refine gS ?_);simp only[go_sem])|refine gA ?_|(refine gD ?_ ?_<;>intro h<;>try exact aD h)|fail
 exact dY (.refl _)
theorem kI(l:List Pat):∀e∈l.map iH,e.cells.length=2:=fun e he=>by
 obtain⟨x,_,rfl⟩:=zAi.1 he;rfl
theorem oM(l:List Pat):(∀e∈l.map iH,e.cells.length=2)=True:=zBf (kI l)
theorem sP(l:List Pat):∀e∈l.map iH,Pur e:=fun e he=>by
 obtain⟨x,_,rfl⟩:=zAi.1 he;first|exact(by simp only[go_sem])|(simp only[iH];exact(by simp only[go_sem]))
theorem aB7(b:Bool)(l:List Pat)(hl:l.length≤1073741824)(H:AHeap):bJ Tryz.prog 144 [.sl b (l.map iH)] H (.sl false (l.map iH)):=by
 refine fO Tryz.func144 ?_;repeat' first|(refine gS ?_;simp only[go_sem])|refine gA ?_|(refine gD ?_ ?_<;>intro h<;>try exact aD h)|fail
 intro c hc;cases c with
 |true=>
  have hnil:l=[]:=by
   cases l with
   |nil=>rfl
   |cons x l=>exact absurd (hc (by simp)) (by decide)
  subst hnil;repeat' first|(refine gS ?_;simp only[go_sem])|refine gA ?_|(refine gD ?_ ?_<;>intro h<;>try exact aD h)|fail
  exact cU (.sl _ _)
 |false=>
  clear hc;repeat' first|(refine gS ?_;simp only[go_sem,oM])|refine gA ?_|(refine gD ?_ ?_<;>intro h<;>try exact aD h)|fail
  exact jT (cs:=List.flatMap AV.cells (List.map iH l)) (es:=l.map iH) (rest:=[]) (zAb _) (by simp only[go_sem]) (zAj _).symm (by rw[zAs]) (kI _) (sP _) rfl
theorem aGt(f:Bool)(d:Dis)(hl:d.loose.length≤1000000)(H:AHeap):bJ Tryz.prog 114 [sO f d] H (sO false d):=by
 refine fO Tryz.func114 ?_;have hc:=aB7 f d.loose (by omega)
 repeat' first|(refine gS ?_;simp only[go_sem,sO])|refine gA ?_|(refine gD ?_ ?_<;>intro h<;>try exact aD h)|fail
 exact dY (.refl _)
theorem aAp(a:Nat)(l:List Txt)(i:Nat)(h:i<l.length):(kG a l).take (i+1)=(kG a l).take i++[⟨(a+i:Nat),l[i]⟩]:=by
 rw[zAl (by unfold kG;simpa using h)]
 congr 2;unfold kG;simp[h]
def yG:Pat:=⟨0,[]⟩
theorem aAq(n:Nat):(List.replicate n (AV.agg [.int .i64 0,.str []])).flatMap AV.cells=flA iH (List.replicate n yG):=by unfold flA;rw[List.map_replicate];rfl
theorem aAr{α:Type}{enc:α→AV}{s:Nat}(hs:∀x,(enc x).cells.length=s)(A B C:List α)(h:A.length=B.length):bI (flA enc (B++C)) 0 (flA enc A)=flA enc (A++C):=by
 unfold bI;rw[nF,nF,zAS,zAJ,zBn,lI hs,h,←lI hs B,List.drop_left]
theorem aB8(a:Nat)(l:List Txt):(kG a l).length=l.length:=by unfold kG;simp
theorem aB9(f:Bool){d:Dis}(hk:KS d)(a:Nat)(s:Txt)(hs:s.length≤1073741824)(ha:a≤1000000)(H:AHeap):bJ Tryz.prog 77 [sO f d,.int .i64 a,.str s] H (.tup [sO false (iF d a s).1,.int .i64 (iF d a s).2]):=by
 refine fO Tryz.func77 ?_;obtain⟨k1,k2,k3,k4⟩:=hk.size;have hfew:=hk.few;have hc:=aBe f hk;have hm:=aBd s hs;have hmk:aS s≤67108864:=by unfold aS;omega
 have w1:IntKind.i64.wrap (d.size-(aS s:Int))=d.size-aS s:=wI;have d1:decide ((a:Int)<0)=false:=dF;unfold iF;rw[zAk (by omega)]
 have hsm:=aGt f d hfew;unfold sO at *;by_cases hfull:d.size-aS s<a
 ·have d2:decide (d.size-(aS s:Int)<(a:Int))=true:=zAg hfull;rw[zAp hfull];repeat' first|(refine gS ?_;simp only[go_sem,w1,d1,d2])|refine gA ?_|(refine gD ?_ ?_<;>intro h<;>try exact aD h)|fail
  exact dY (.refl _)
 ·have d2:decide (d.size-(aS s:Int)<(a:Int))=false:=zAh hfull;rw[zAk hfull];have hct:=aJE s hs;have hcl:=yE s;have w3:IntKind.i64.wrap ((d.loose.length:Int)+(aS s:Int))=((d.loose.length+aS s:Nat):Int):=by rw[wI];omega
  have hpl:=aB8 a (gM s);by_cases hN:d.loose.length+aS s=0
  ·have hl0:d.loose=[]:=zAu (by omega)
   have hc0:gM s=[]:=zAu (by omega)
   have hm0:aS s=0:=by omega
   rw[hl0]at hc ⊢;rw[hm0]at hm w1 d2;rw[hc0]at hct ⊢;have hw0:IntKind.i64.wrap (((0:Nat):Int)+((0:Nat):Int))=0:=rfl;repeat' first|(refine gS ?_;simp only[go_sem,w1,d1,d2,hw0])|refine gA ?_|(refine gD ?_ ?_<;>intro h<;>try exact aD h)|fail
   refine tH 1 ?_;unfold mZ;repeat' first|(refine gS ?_;simp only[go_sem])|refine gA ?_|(refine gD ?_ ?_<;>intro h<;>try exact aD h)|fail
   exact⟨_,.tup [.agg [.int .i64 d.size,.str d.firm,.sl false []],.int .i64 0],rfl,.tup _ _ rfl (fI (.agg _ _ rfl (fI (.cl _ (.int _ _)) (fI (.cl _ (.str _)) (fI (aAR (v:=2) (cs:=[]) (es:=[]) (rest:=[]) (by omega) (by simp only[go_sem];rfl) rfl rfl (by simp) (by simp)) iO)))) (fI (.cl _ (.int _ _)) iO)),rfl⟩
  have hN0:(0=d.loose.length+aS s)=False:=eq_false (by omega)
  have hz:=aAq (d.loose.length+aS s);have hzl:=lI (enc:=iH) (s:=2) (fun _=>rfl) (List.replicate (d.loose.length+aS s) yG)
  rw[zBu]at hzl;have hfe:List.flatMap AV.cells (d.loose.map iH)=flA iH d.loose:=rfl;have he2:(∀e∈d.loose.map iH,e.cells.length=2)=True:=zBf fun e he=>by obtain⟨x, -,rfl⟩:=zAi.1 he;rfl
  have hone:(flA iH d.loose).all AV.one=true:=zAx.2 fun x hx=>by
   rw[flA,List.mem_flatMap]at hx;obtain⟨y,hy,hx⟩:=hx;obtain⟨z, -,rfl⟩:=zAi.1 hy;rcases zAC.1 hx with rfl|hx
   ·rfl
   ·rw[zAq.1 hx];rfl
  have hsp:bI (flA iH (List.replicate (d.loose.length+aS s) yG)) 0 (flA iH d.loose)=flA iH (d.loose++List.replicate (aS s) yG):=by
   rw[show List.replicate (d.loose.length+aS s) yG=List.replicate d.loose.length yG++List.replicate (aS s) yG by simp]
   exact aAr (enc:=iH) (s:=2) (fun _=>rfl) _ _ _ zBu.symm
  repeat' first|(refine gS ?_;simp only[go_sem,w1,d1,d2,w3,hcl,hN0,hz,hzl,hfe,he2,hone,hsp])|refine gA ?_|(refine gD ?_ ?_<;>intro h<;>try exact aD h)|fail
  obtain⟨D,hD⟩:∃D:Nat→List Pat,∀i,D i=d.loose++((kG a (gM s)).take i++List.replicate (aS s-i) yG):=⟨_,fun _=>rfl⟩
  have hDl:∀i,i≤aS s→(D i).length=d.loose.length+aS s:=fun i hi=>by rw[hD];simp[hpl,hcl];omega
  refine dU (ι:=AHeap) (fun s1=>[(3,.ref H.length 0 0),(6,.ref (H.length+1) 0 0),(9,.osl 2 (H.length+2) 1 0 (d.loose.length+aS s) (d.loose.length+aS s))]) (fun s1=>H++(.cells 0 [.int .i64 d.size,.str d.firm,.sl f (d.loose.map iH)]::.cells 0 [.int .i64 0,.str [],.sl true []]::.cells 1 (flA iH (D (aS s)))::s1)) (fun _=>True) ?_ fun M _=>?_
  ·refine aH (ι:=Nat×AHeap) (fun x=>[(1,.int .i64 a),(3,.ref H.length 0 0),(6,.ref (H.length+1) 0 0),(9,.osl 2 (H.length+2) 1 0 (d.loose.length+x.1) (d.loose.length+aS s)),(43,.sl false ((gM s).map fun t=>AV.agg (bA t))),(44,.int .i64 (aS s)),(45,.int .i64 x.1)])
    (fun x=>H++(.cells 0 [.int .i64 d.size,.str d.firm,.sl f (d.loose.map iH)]::.cells 0 [.int .i64 0,.str [],.sl true []]::.cells 1 (flA iH (D x.1))::x.2)) (fun x=>x.1≤aS s) (fun x=>aS s-x.1) (0,[]) (zAv _) ?_ (by rw[hD,zAS,Nat.sub_zero];rfl) ?_
   ·simp[go_sem]
   rintro⟨i,M⟩ hi;simp only at hi ⊢;by_cases hlt:i<aS s
   ·have hp:=bO (fun t=>AV.agg (bA t)) (show i<(gM s).length by omega)
    have hli:decide ((i:Int)<(aS s:Int))=true:=dT;have m1:∀x:ABlk,(M++[x]).getD M.length .gone=x:=fun x=>by simp
    have m2:∀x y:ABlk,(M++[x]).set M.length y=M++[y]:=fun x y=>by simp
    have hw:=cA hlt (by omega)
    have hw2:IntKind.i64.wrap ((a:Int)+(i:Int))=((a+i:Nat):Int):=by rw[wI];omega
    have ht16:((gM s)[i]'(by omega)).length=16:=by unfold gM;simp[rU]
    have aA:=aGe (enc:=iH) (s:=2) (fun _=>rfl) (D:=D i) (k:=d.loose.length+i) (by rw[hDl i hi];omega) ⟨(a+i:Nat),(gM s)[i]'(by omega)⟩
    have hDs:(D i).set (d.loose.length+i) ⟨(a+i:Nat),(gM s)[i]'(by omega)⟩=D (i+1):=by
     rw[hD,hD,aAp a (gM s) i (by omega),List.set_append_right _ _ (by omega),Nat.add_sub_cancel_left,List.set_append_right _ _ (by simp;omega),zAe]
     congr 2;rw[zAX,hpl,Nat.min_eq_left (by omega),Nat.sub_self,show aS s-i=aS s-(i+1)+1 by omega,zBb]
     rfl
    rw[hDs]at aA;simp only[iH,AV.cells]at aA;have hfl:=lI (enc:=iH) (s:=2) (fun _=>rfl) (D i)
    rw[hDl i hi]at hfl;have hdi:=hDl i hi;generalize(gM s)[i]'(by omega)=t at *
    have hsz:bI [.int .u8 0,.int .u8 0,.int .u8 0,.int .u8 0,.int .u8 0,.int .u8 0,.int .u8 0,.int .u8 0,.int .u8 0,.int .u8 0,.int .u8 0,.int .u8 0,.int .u8 0,.int .u8 0,.int .u8 0,.int .u8 0] 0 (bA t)=bA t:=by unfold bI;rw[zAS,zAJ,zBj (by rw[fS,ht16];decide),zAj]
    have htk:List.take 16 (bA t)=bA t:=zAT (by rw[fS];omega)
    have hq1:(∀e,e=AV.agg [.int .i64 ((a+i:Nat):Int),.str t]→e.cells.length=2)=True:=zBf fun e he=>by rw[he];rfl
    have hne:¬(d.loose.length+i=d.loose.length+aS s):=by omega
    repeat' first|(refine gS ?_;simp only[go_sem,hp,hli,m1,m2,hw2,ht16,hsz,htk,hne,hfl,aA,hq1])|refine gA ?_|(refine gD ?_ ?_<;>intro h<;>try exact aD h)|fail
    exact⟨(i+1,M++[.cells 0 (bA t)]),by simp only;omega,by simp only;omega,⟨rfl,zA5 _ hw⟩,rfl⟩
   ·have hie:i=aS s:=by omega
    subst hie;repeat' first|(refine gS ?_;simp only[go_sem,hlt])|refine gA ?_|(refine gD ?_ ?_<;>intro h<;>try exact aD h)|fail
    exact⟨M,rfl⟩
  ·have hfz:flA iH (D (aS s))=((d.loose++kG a (gM s)).map iH).flatMap AV.cells:=by
    rw[hD,Nat.sub_self,List.replicate_zero,zAj,zAT (by omega)];rfl
   refine sZ [9] ((d.loose++kG a (gM s)).map iH) (v:=1) (lc:=d.loose.length+aS s) (i:=H.length+2) (s:=2) (cs:=flA iH (D (aS s))) (by intro t ht;simp only[zAq]at ht;subst ht;rw[zAs,zAa,hpl,hcl];simp only[go_sem]) (by simp only[go_sem]) (by omega) hfz (fun e he=>by(obtain⟨x, -,rfl⟩:=zAi.1 he;rfl)) ?_
   simp only[go_sem,zAV,zBr];repeat' first|(refine gS ?_;simp only[go_sem])|refine gA ?_|(refine gD ?_ ?_<;>intro h<;>try exact aD h)|fail
   exact dY (.refl _)
end Go.Proofs.YtigedpfipifefaaGreatDoor
