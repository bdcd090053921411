/- What functions answer. No condition. -/
import Derived.Test.YtnmamncmpklliaaGreatDoorWorkH
import Derived.RecoverIn
import Derived.Lib.Builder
import Derived.Lib.UnsafeStr
import Derived.Lib.Walk
import Derived.WalkKit
import Derived.Laws.Externs
import Derived.Shelf.RegionOpenPlain
import Derived.Test.YtnmamncmpklliaaGreatDoorRows
import Derived.JoinedCond
import Derived.Deep.DeepHandedRow
set_option linter.unusedSimpArgs false
set_option linter.unusedVariables false
set_option linter.unusedSectionVars false
set_option maxRecDepth 100000
set_option maxHeartbeats 16000000
namespace Go.Proofs.YtnmamncmpklliaaGreatDoor
variable{d:gh}{α:a8}{o:Oper}{ρ:Operand->I}{H:ab}{X:Value->ab->Prop}{x:I}{n N id i clock:Nat}{f g:FuncId}{ts:Array TypeId}{ops:Array Oper}{args cs:List I}{fn:Func}{code:Code}{l:List aH}{v:Value}{w:World}{p:I×I×Nat}{q:Int}{a:Act}{B:bD}{e ty T Y:TypeId}{es ps:List (I×I×Nat)}{bO:List al}{P:Program}
open Go.Proofs.Tryz
def U6:List cK:=[.aQ,.aQ,.ah 0,.ah 0,.aQ,.aQ,.aQ,.ah 0,.bW [false,false,true]]
attribute [go_sem] U6
theorem XY(s:al)(hs:s.length<=1073741824)(H:ab):aO prog 159 [.str s] H (.int .i64<|dz s):=by
 refine bg func159 ?_;have h1:IntKind.i64.wrap ((s.length:Int)+16)=((s.length+16:Nat):Int):=by rw[bS];rfl
 have h2:IntKind.i64.wrap (((s.length+16:Nat):Int)-1)=((s.length+15:Nat):Int):=by rw[bS];omega
 refine hH ?_;exact bJ<|.of (by rw[zG gf,bS];unfold dz;simp)
theorem aLc(n:Int)(H:ab):aO prog 60 [.int .i64 n] H (ha true<|qs n):=by
 refine bg func60 ?_;obtain⟨z,J⟩:∃z:Nat,min (max n 0) 65536=(z:Int):=⟨(min (max n 0) 65536).toNat,gf⟩;have U:z<=65536:=gf;have h1:IntKind.i64.wrap ((z:Int) * 16)=((z * 16:Nat):Int):=by rw[bS];omega
 unfold qs;rw[J];refine hH ?_;exact aX<|.of (by simp[ha])
theorem aKR(f:Bool)(d:gh)(hl:d.loose.length<=1073741824)(V:d.jJ.length<=1073741824)(H:ab):aO prog 103 [ha f d] H (.bool<|qM d):=by
 refine bg func103 ?_;repeat' first|refine bL ha.eq_1 ?_|(refine bz ?_ ?_<;>intro h<;>try exact bx h)|fail
 ·have K:qM d=false:=by
   rw[wV];intro q;unfold qM at q;simp only[dp,iK]at q;rw[bS]at h;simp at h;omega
  rw[K];exact aX<|.refl _
 simp only[Bool.or_eq_false_iff,wY,Bool.not_eq_false',iK]at h;rw[bS]at h;have hk:qM d=d.loose.all (wH d.size):=by unfold qM;rw[dr (by omega:0<=d.size),dr (by omega:d.size<=65536),dr h.2];rfl
 rw[hk];refine c7 (ι:=Nat×ab) (λs=>[(1,.ref H.length 0 0),(2,.bool false),(23,.sl f<|d.loose.map fa),(24,.int .i64 d.loose.length),(25,.int .i64 s.1)]) (λs=>H++(.cells 0 [.int .i64 d.size,.str d.jJ,.sl f<|d.loose.map fa]::s.2)) (λs=>s.1<=d.loose.length/\(d.loose.take s.1).all (wH d.size)=true) (λs=>d.loose.length-s.1) (0,[]) ⟨cb _,hW⟩ ?_ rfl ?_
 ·simp[go_sem]
 rintro⟨q,M⟩ ⟨aM,U⟩;simp only at aM U ⊢;by_cases J:q<d.loose.length
 ·have ad:=ek fa J;have O:decide ((q:Int)<(d.loose.length:Int))=true:=cS;have m1:∀x:bD,(M++[x]).getD M.length .gone=x:=λx=>hW;have m2:∀x y:bD,(M++[x]).set M.length y=M++[y]:=λx y=>hW;have hw:=eb J gf;have hs:(d.loose.take (q+1)).all (wH d.size)=wH d.size d.loose[q]:=by rw[hc J,Hl,U];simp
  have af:wH d.size d.loose[q]=false->d.loose.all (wH d.size)=false:=λe=>by rw[wV];intro w;have:=fu.1 w _<|fQ J;rw[e]at this;cases this
  generalize d.loose[q]=p at *;repeat' first|(refine ae ?_;simp only[go_sem,ad,O,fa,m1,m2])|refine bp ?_|(refine bz ?_ ?_<;>intro h<;>try exact bx h)|fail
  ·rw[af (by unfold wH;simp at *;omega)]
   exact aX<|.refl _
  ·refine⟨(q+1,M++[_]),⟨J,?_⟩,by simp only;omega,b7 _ hw,rfl⟩
   simp only;rw[hs];unfold wH;simp at *;omega
 ·have S:q=d.loose.length:=gf;subst S;rw[fe]at U;repeat' first|(refine ae ?_;simp only[go_sem,J])|refine ai ?_|fail
  rw[U];exact aX<|.refl _
structure fI (d:gh):Prop where
 ok:qM d=true
 Mu:d.loose.length<=1000000
theorem fI.size(h:fI d):0<=d.size/\d.size<=65536/\(d.jJ.length:Int)=d.size * 16/\∀p∈d.loose,0<=p.at_/\p.at_<d.size/\p.data.length=16:=by have:=h.ok;unfold qM at this;simp only[dp,iK,fu]at this;refine⟨this.1,this.2.1,this.2.2.1,λp ad=>?_⟩;have:=this.2.2.2 p ad;unfold wH at this;simpa using this
theorem GX(f:Bool)(h:fI d)(H:ab):aO prog 103 [ha f d] H (.bool true):=by have hs:=h.size;have:=h.Mu;have J:=aKR f d gf gf H;rwa[h.ok]at J
theorem W2(s:al):(jR s).length=dz s:=by unfold jR;simp
theorem OQ(s:al):(yK s).length=16:=by unfold yK;simp[fM];omega
def tO(s:al)(i:Nat):al:=(List.range i).flatMap (λk=>yK<|s.drop (k * 16))++fM ((dz s-i) * 16)
theorem W3(s:al)(i:Nat):((List.range i).flatMap λk=>yK<|s.drop (k * 16)).length=i * 16:=by
 induction i with
 |zero=>rfl
 |succ i J=>rw[BG,qx,bw,J];simp[OQ];omega
theorem aFU(s:al)(i:Nat)(h:i<dz s):
  (tO s i).take (i * 16)++((s.drop (i * 16)).take 16++(tO s i).drop (i * 16+((s.drop (i * 16)).take 16).length))=tO s (i+1):=by
 have hl:=W3 s i;unfold tO;rw[BG,qx];obtain⟨u,hu⟩:∃u,u=(s.drop (i * 16)).take 16:=⟨_,rfl⟩;have ad:(List.flatMap (λk=>yK<|s.drop (k * 16)) [i])=u++fM (16-(s.drop (i * 16)).length):=by simp[yK,hu]
 have J:u.length=min 16 (s.drop<|i * 16).length:=by rw[hu,gK]
 rw[ad,<-hu];generalize(List.range i).flatMap (λk=>yK<|s.drop (k * 16))=A at *
 rw[<-hl,yn,<-ym,BI,c6,c6];congr 2;unfold fM;rw[List.drop_replicate,List.replicate_append_replicate];congr 1;have:dz s-i=dz s-(i+1)+1:=gf;rw[this,o2,J];simp only[hp,hl]at *;omega
theorem aFV(s:al):ck (tO s<|dz s)=((jR s).map λt=>I.agg<|ck t).flatMap I.cells:=by unfold tO jR;rw[Nat.sub_self,Nat.zero_mul,List.flatMap_map,List.flatMap_map];simp only[I.cells,fM,List.replicate_zero,cE];unfold ck;rw[List.map_flatMap]
theorem aKS(s:al)(hs:s.length<=1073741824)(H:ab):aO prog 160 [.str s] H (.sl false<|(jR s).map λt=>I.agg (ck t)):=by
 refine bg func160 ?_;have hm:=XY s hs;have Z:dz s<=67108864:=by unfold dz;omega
 repeat' first|(refine ae ?_;simp only[go_sem])|refine ai ?_|fail
 refine c7 (ι:=Nat) (λi=>[(0,.str s),(3,.osl 16 H.length 1 0 (dz s)<|dz s),(9,.int .i64<|dz s),(10,.int .i64 i)]) (λi=>H++[.cells 1 (ck<|tO s i)]) (λi=>i<=dz s) (λi=>dz s-i) 0 (cb _) ?_ ?_ ?_
 ·simp[go_sem]
 ·simp[tO]
 intro i hi;by_cases U:i<dz s
 ·have K:decide ((i:Int)<(dz s:Int))=true:=cS;have hw:=eb U gf;have S:IntKind.i64.wrap ((i:Int) * 16)=((i * 16:Nat):Int):=by rw[bS];omega
  have hle:i * 16<=s.length:=by unfold dz at U;omega
  have z:(tO s i).length=dz s * 16:=by unfold tO;rw[bw,W3,Gr,<-o2];congr 1;omega
  have O:=Us (tO s i) ((s.drop (i * 16)).take 16)<|i * 16;rw[aFU s i U]at O;generalize tO s i=T at *;repeat' first|((first|refine mx [5] U6 ?_|refine ae ?_);simp only[go_sem,K,S,O])|refine ai ?_|fail
  exact⟨i+1,U,gf,b7 _ hw,rfl⟩
 ·have V:i=dz s:=gf;subst V;have K:decide ((dz s:Int)<(dz s:Int))=false:=hW;refine hH ?_;exact uV (cs:=ck<|tO s (dz s)) (es:=(jR s).map λt=>I.agg<|ck t) (rest:=[]) (bh _) mZ (by rw[cE];exact aFV s) (by rw[dq,W2])
   (λe he=>by obtain⟨t,ag,rfl⟩:=bP.1 he;obtain⟨k, -,rfl⟩:=bP.1 ag;exact(qO _).trans<|OQ _) (λe he=>by obtain⟨t, -,rfl⟩:=bP.1 he;exact .agg _ λx J=>by obtain⟨b, -,rfl⟩:=bP.1 J;exact .int _ _) rfl
theorem aFW{t s:al}{off:Nat}(h:off+s.length<=t.length):(sf t off s).length=t.length:=by unfold sf;simp only[bw,gK,hp];omega
def yf(a n:Nat)(t:al)(p:pK):al:=if(a:Int)<=p.at_/\p.at_<a+n then sf t ((p.at_.toNat-a) * 16) p.data else t
theorem W4(d:gh)(a n:Nat):l5 d a n=d.loose.foldl (yf a n) ((d.jJ.drop (a * 16)).take (n * 16)):=rfl
def U4:List cK:=[.aQ,.ah 0,.ah 0,.aQ,.aQ,.aQ,.ah 0,.ah 0,.ah 0,.bW [false,true,false,true,true]]
def U5:List cK:=[.ah 0,.ah 0,.ah 0,.ah 0,.ah 0,.ah 0,.aQ,.bW []]
attribute [go_sem] U4 U5
theorem XZ(f:Bool)(hk:fI d)(a n:Nat)(af:((a+n:Nat):Int)<=d.size)(H:ab):aO prog 154 [ha f d,.int .i64 a,.int .i64 n] H (.str<|l5 d a n):=by
 refine bg func154 ?_;obtain⟨k1,k2,k3,k4⟩:=hk.size;have RS:=hk.Mu;have c5:IntKind.i64.wrap ((a:Int) * 16)=((a * 16:Nat):Int):=by rw[bS];omega
 have I:IntKind.i64.wrap ((a:Int)+(n:Int))=((a+n:Nat):Int):=by rw[bS];omega
 have gy:IntKind.i64.wrap (((a+n:Nat):Int) * 16)=(((a+n) * 16:Nat):Int):=by rw[bS];omega
 rw[W4];have I3:List.drop (a * 16) (List.take ((a+n) * 16) d.jJ)=(d.jJ.drop (a * 16)).take (n * 16):=by rw[List.drop_take];congr 1;omega
 obtain⟨S,ME⟩:∃S,S=(d.jJ.drop (a * 16)).take (n * 16):=⟨_,rfl⟩;have IZ:S.length=n * 16:=by rw[ME,gK,hp];omega
 rw[<-ME]at I3 ⊢;repeat' first|(refine ae ?_;simp only[go_sem,ha,c5,I,gy,I3,IZ])|refine ai ?_|fail
 obtain⟨T,cX⟩:∃T:Nat->al,∀q,T q=(d.loose.take q).foldl (yf a n) S:=⟨_,λ_=>rfl⟩;refine c7 (ι:=Nat×ab) (λs=>[(1,.int .i64 a),(2,.int .i64 n),(7,.osl 1 (H.length+1) 1 0 (n * 16)<|n * 16),(21,.sl f<|d.loose.map fa),(22,.int .i64 d.loose.length),(23,.int .i64 s.1)]) (λs=>H++(.cells 0 [.int .i64 d.size,.str d.jJ,.sl f<|d.loose.map fa]::.cells 1 (ck<|T s.1)::s.2)) (λs=>s.1<=d.loose.length/\(T s.1).length=n * 16) (λs=>d.loose.length-s.1) (0,[]) ⟨cb _,by rw[cX];simpa using IZ⟩ ?_ (by rw[cX];rfl) ?_
 ·simp[go_sem]
 rintro⟨q,M⟩ ⟨aM,V⟩;simp only at aM V ⊢;by_cases J:q<d.loose.length
 ·have ad:=ek fa J;have bl:decide ((q:Int)<(d.loose.length:Int))=true:=cS;have m1:∀x:bD,(M++[x]).getD M.length .gone=x:=λx=>hW;have m2:∀x y:bD,(M++[x]).set M.length y=M++[y]:=λx y=>hW;have hw:=eb J gf;have K:T (q+1)=yf a n (T q) d.loose[q]:=by rw[cX,cX,hc J,yl];rfl
  obtain⟨lp,z2,z3⟩:=k4 _<|fQ J;generalize d.loose[q]=p at *;obtain⟨P,iy⟩:∃P:Nat,p.at_=P:=⟨p.at_.toNat,gf⟩;by_cases bK:a<=P/\P<a+n
  ·have c1:decide ((a:Int)<=p.at_)=true:=cS;have c2:decide (p.at_<((a+n:Nat):Int))=true:=cS;have gz:IntKind.i64.wrap (p.at_-(a:Int))=((P-a:Nat):Int):=by rw[bS];omega
   have e5:IntKind.i64.wrap (((P-a:Nat):Int) * 16)=(((P-a) * 16:Nat):Int):=by rw[bS];omega
   have a1:(P-a) * 16+16<=n * 16:=gf;rw[show yf a n (T q) p=sf (T q) ((P-a) * 16) p.data by unfold yf;rw[aC gf,iy];rfl]at K
   have xJ:=aFW (t:=T q) (s:=p.data) (off:=(P-a) * 16) gf;rw[<-K,V]at xJ;have Z:=Us (T q) (p.data.take (n * 16-(P-a) * 16))<|(P-a) * 16;have z:p.data.take (n * 16-(P-a) * 16)=p.data:=qy gf
   rw[z]at Z;have Jl:(T q).take ((P-a) * 16)++(p.data++(T q).drop ((P-a) * 16+p.data.length))=T (q+1):=by rw[K];unfold sf;rw[V,z]
   rw[Jl]at Z;generalize T q=U at *;generalize(P-a) * 16=O at *;repeat' first|((first|refine mx [6] U4 ?_|refine ae ?_);simp only[go_sem,ad,bl,fa,m1,m2,c1,c2,I,gz,e5,z,Z,z3])|refine ai ?_|fail
   exact⟨(q+1,M++[_]),⟨J,xJ⟩,by simp only;omega,b7 _ hw,by rw[mi,Z]⟩
  ·have c1:(decide ((a:Int)<=p.at_)&&decide (p.at_<((a+n:Nat):Int)))=false:=by
    rw[Bool.and_eq_false_iff,wY,wY];omega
   rw[show yf a n (T q) p=T q by unfold yf;rw[ar gf]]at K
   repeat' first|(refine ae ?_;simp only[go_sem,ad,bl,fa,m1,m2,I,c1])|refine ai ?_|fail
   exact⟨(q+1,M++[.cells 0 [.int .i64 p.at_,.str p.data]]),⟨J,by simp only;rw[K];exact V⟩,by simp only;omega,b7 _ hw,by rw[K]⟩
 ·have eI:q=d.loose.length:=gf;subst eI;rw[cX,fe]at *;generalize d.loose.foldl (yf a n) S=U at *;have FW:List.take (n * 16 * 1) (ck U)=ck U:=qy<|by rw[qO];omega
  have R3:(n * 16 * 1<=U.length)=True:=b1 gf;repeat' first|(refine ae ?_;simp only[go_sem,J,FW,R3])|refine ai ?_|fail
  exact aX<|.refl _
theorem aH0(f:Bool)(hk:fI d)(H:ab):aO prog 115 [ha f d] H (ha true<|nR d):=by
 refine bg func115 ?_;obtain⟨k1,k2,k3,k4⟩:=hk.size;have J:=GX f hk;obtain⟨z,U⟩:∃z:Nat,d.size=z:=⟨d.size.toNat,gf⟩;have hs:=XZ f hk 0 z gf;unfold nR ha at *;rw[show d.size.toNat=z by omega]
 rw[U]at J hs ⊢;repeat' first|((first|refine mx [3] U5 ?_|refine ae ?_);simp only[go_sem])|refine ai ?_|fail
 exact aX<|.refl _
theorem Wg:DK prog 107 fa:=HI 2 func107
theorem aI7(f:Bool)(d:gh)(hl:d.loose.length<=1000000)(H:ab):aO prog 124 [ha f d] H (ha false d):=by refine bg func124 ?_;have J:=Wg f d.loose gf;refine bL ha.eq_1 ?_;exact aX<|.refl _
theorem aEV(a:Nat)(l:List al)(i:Nat)(h:i<l.length):(qf a l).take (i+1)=(qf a l).take i++[⟨(a+i:Nat),l[i]⟩]:=by
 rw[hc (by unfold qf;simpa using h)]
 congr 2;unfold qf;simp[h]
def Ai:pK:=⟨0,[]⟩
theorem aEW(n:Nat):(List.replicate n (I.agg [.int .i64 0,.str []])).flatMap I.cells=aV fa (List.replicate n Ai):=by unfold aV;rw[List.map_replicate];rfl
theorem aEX{α:Type}{enc:α->I}{s:Nat}(hs:∀x,(enc x).cells.length=s)(A B C:List α)(h:A.length=B.length):du (aV enc<|B++C) 0 (aV enc A)=aV enc (A++C):=by unfold du;rw[iP,iP,rC,jb,lr,en hs,h,<-en hs B,BI]
theorem aFX(a:Nat)(l:List al):(qf a l).length=l.length:=by unfold qf;simp
theorem aFY(f:Bool)(hk:fI d)(a:Nat)(s:al)(hs:s.length<=1073741824)(aG:a<=1000000)(H:ab):aO prog 114 [ha f d,.int .i64 a,.str s] H (.aN [ha false (pw d a s).1,.int .i64 (pw d a s).2]):=by
 refine bg func114 ?_;obtain⟨k1,k2,k3,k4⟩:=hk.size;have RS:=hk.Mu;have ao:=GX f hk;have hm:=XY s hs;have R8:dz s<=67108864:=by unfold dz;omega
 have c5:IntKind.i64.wrap (d.size-(dz s:Int))=d.size-dz s:=bS;have d1:decide ((a:Int)<0)=false:=dA;unfold pw;rw[ar gf];have n1:=aI7 f d RS;unfold ha at *;by_cases K:d.size-dz s<a
 ·have d2:decide (d.size-(dz s:Int)<(a:Int))=true:=dr K;rw[aC K];refine hH ?_;exact aX<|.refl _
 ·have d2:decide (d.size-(dz s:Int)<(a:Int))=false:=b0 K;rw[ar K];have Fy:=aKS s hs;have V:=W2 s;have gy:IntKind.i64.wrap ((d.loose.length:Int)+(dz s:Int))=((d.loose.length+dz s:Nat):Int):=by rw[bS];omega
  have O:=aFX a<|jR s;by_cases eu:d.loose.length+dz s=0
  ·have lL:d.loose=[]:=iL gf;have y0:jR s=[]:=iL gf;have CP:dz s=0:=gf;rw[lL]at ao ⊢;rw[CP]at hm c5 d2;rw[y0]at Fy ⊢;have n3:IntKind.i64.wrap (((0:Nat):Int)+((0:Nat):Int))=0:=rfl;refine hH ?_;refine sX 1 ?_;unfold pS;repeat' first|(refine ae ?_;simp only[go_sem])|refine ai ?_|fail
   exact⟨_,.aN [.agg [.int .i64 d.size,.str d.jJ,.sl false []],.int .i64 0],rfl,.aN _ _ rfl<|ds (.agg _ _ rfl (ds (.cl _ (.int _ _)) (ds (.cl _ (.str _)) (ds (q8 (v:=2) (cs:=[]) (es:=[]) (rest:=[]) gf (by simp only[go_sem];rfl) rfl rfl hW hW) fx)))) (ds (.cl _ (.int _ _)) fx),rfl⟩
  have aYh:(0=d.loose.length+dz s)=False:=eq_false gf;have a1:=aEW<|d.loose.length+dz s;have p8:=en (enc:=fa) (s:=2) (λ_=>rfl)<|List.replicate (d.loose.length+dz s) Ai
  rw[zI]at p8;have AS:List.flatMap I.cells (d.loose.map fa)=aV fa d.loose:=rfl;have AR:(∀e∈d.loose.map fa,e.cells.length=2)=True:=b1 λe he=>by obtain⟨x, -,rfl⟩:=bP.1 he;rfl
  have q2:(aV fa d.loose).all I.one=true:=fu.2 λx J=>by
   rw[aV,vf]at J;obtain⟨y,aJ,J⟩:=J;obtain⟨z, -,rfl⟩:=bP.1 aJ;rcases db.1 J with rfl|J
   ·rfl
   ·rw[dH.1 J];rfl
  have ee:du (aV fa<|List.replicate (d.loose.length+dz s) Ai) 0 (aV fa d.loose)=aV fa (d.loose++List.replicate (dz s) Ai):=by
   rw[show List.replicate (d.loose.length+dz s) Ai=List.replicate d.loose.length Ai++List.replicate (dz s) Ai by simp]
   exact aEX (enc:=fa) (s:=2) (λ_=>rfl) _ _ _ zI.symm
  refine hH ?_;obtain⟨D,U⟩:∃D:Nat->List pK,∀i,D i=d.loose++((qf a (jR s)).take i++List.replicate (dz s-i) Ai):=⟨_,λ_=>rfl⟩;have S:∀i,i<=dz s->(D i).length=d.loose.length+dz s:=λi hi=>by rw[U];simp[O,V];omega
  refine n8 (ι:=ab) (λs1=>[(3,.ref H.length 0 0),(6,.ref (H.length+1) 0 0),(9,.osl 2 (H.length+2) 1 0 (d.loose.length+dz s)<|d.loose.length+dz s)]) (λs1=>H++(.cells 0 [.int .i64 d.size,.str d.jJ,.sl f<|d.loose.map fa]::.cells 0 [.int .i64 0,.str [],.sl true []]::.cells 1 (aV fa<|D (dz s))::s1)) (λ_=>True) ?_ λM _=>?_
  ·refine c7 (ι:=Nat×ab) (λx=>[(1,.int .i64 a),(3,.ref H.length 0 0),(6,.ref (H.length+1) 0 0),(9,.osl 2 (H.length+2) 1 0 (d.loose.length+x.1)<|d.loose.length+dz s),(43,.sl false<|(jR s).map λt=>I.agg (ck t)),(44,.int .i64<|dz s),(45,.int .i64 x.1)])
    (λx=>H++(.cells 0 [.int .i64 d.size,.str d.jJ,.sl f<|d.loose.map fa]::.cells 0 [.int .i64 0,.str [],.sl true []]::.cells 1 (aV fa<|D x.1)::x.2)) (λx=>x.1<=dz s) (λx=>dz s-x.1) (0,[]) (cb _) ?_ (by rw[U,rC,Nat.sub_zero];rfl) ?_
   ·simp[go_sem]
   rintro⟨i,M⟩ hi;simp only at hi ⊢;by_cases av:i<dz s
   ·have ad:=ek (λt=>I.agg (ck t))<|show i<(jR s).length by omega
    have bl:decide ((i:Int)<(dz s:Int))=true:=cS;have m1:∀x:bD,(M++[x]).getD M.length .gone=x:=λx=>hW;have m2:∀x y:bD,(M++[x]).set M.length y=M++[y]:=λx y=>hW;have hw:=eb av gf;have dQ:IntKind.i64.wrap ((a:Int)+(i:Int))=((a+i:Nat):Int):=by rw[bS];omega
    have Z:((jR s)[i]'(by omega)).length=16:=by unfold jR;simp[OQ]
    have an:=KE (enc:=fa) (s:=2) (λ_=>rfl) (D:=D i) (k:=d.loose.length+i) (by rw[S i hi];omega) ⟨(a+i:Nat),(jR s)[i]'(by omega)⟩
    have qT:(D i).set (d.loose.length+i) ⟨(a+i:Nat),(jR s)[i]'(by omega)⟩=D (i+1):=by
     rw[U,U,aEV a (jR s) i gf,List.set_append_right _ _ gf,Nat.add_sub_cancel_left,List.set_append_right _ _ nc,c6];congr 2;rw[gK,O,Nat.min_eq_left gf,Nat.sub_self,show dz s-i=dz s-(i+1)+1 by omega,zH]
     rfl
    rw[qT]at an;simp only[fa,I.cells]at an;have eh:=en (enc:=fa) (s:=2) (λ_=>rfl)<|D i
    rw[S i hi]at eh;have eH:=S i hi;generalize(jR s)[i]'(by omega)=t at *
    have hsz:du [.int .u8 0,.int .u8 0,.int .u8 0,.int .u8 0,.int .u8 0,.int .u8 0,.int .u8 0,.int .u8 0,.int .u8 0,.int .u8 0,.int .u8 0,.int .u8 0,.int .u8 0,.int .u8 0,.int .u8 0,.int .u8 0] 0 (ck t)=ck t:=by unfold du;rw[rC,jb,List.drop_eq_nil_of_le (by rw[qO,Z];decide),cE]
    have ik:List.take 16 (ck t)=ck t:=qy<|by rw[qO];omega
    have jw:(∀e,e=I.agg [.int .i64 ((a+i:Nat):Int),.str t]->e.cells.length=2)=True:=b1 λe he=>by rw[he];rfl
    have aT:¬(d.loose.length+i=d.loose.length+dz s):=gf;repeat' first|(refine ae ?_;simp only[go_sem,ad,bl,m1,m2,dQ,Z,hsz,ik,aT,eh,an,jw])|refine ai ?_|fail
    exact⟨(i+1,M++[.cells 0 (ck t)]),by simp only;omega,by simp only;omega,⟨rfl,b7 _ hw⟩,rfl⟩
   ·have eI:i=dz s:=gf;subst eI;refine hH ?_;exact⟨M,rfl⟩
  ·have I6:aV fa (D<|dz s)=((d.loose++qf a (jR s)).map fa).flatMap I.cells:=by
    rw[U,Nat.sub_self,List.replicate_zero,cE,qy gf];rfl
   refine A8 [9] ((d.loose++qf a (jR s)).map fa) (v:=1) (lc:=d.loose.length+dz s) (i:=H.length+2) (s:=2) (cs:=aV fa<|D (dz s)) (by intro t ag;simp only[dH]at ag;subst ag;rw[dq,bw,O,V];simp only[go_sem]) mZ gf I6 (λe he=>by(obtain⟨x, -,rfl⟩:=bP.1 he;rfl)) ?_
   simp only[go_sem,dO,jm];refine a7 ?_;exact aX<|.refl _
def vo(P:Program)(f:FuncId)(args:List I)(H:ab)(X:Value->ab->Prop):Prop:=
 ∀(c:Ctx) (vs:Array Value),bm c H->qG c args vs->
  Calls P f vs c.w (λe w'=>∃c' v H',e=.panicked [{v:=v,recovered:=false}]/\c'.w=w'/\bm c' H'/\Ext c c'/\X v H')
theorem vo.mono{f:FuncId}{args:List I}{H:ab}{X Y:Value->ab->Prop}(h:vo P f args H X)(k:∀v H',X v H'->Y v H'):vo P f args H Y:=
 λc vs hs J=>(h c vs hs J).mono λ_ _ ⟨c',v,H',a,b,d,e,f⟩=>⟨c',v,H',a,b,d,e,k v H' f⟩
def Qn(P:Program)(o:Oper)(ρ:Operand->I)(H:ab)(X:Value->ab->Prop):Prop:=
 ∀(r:Option Nat) (c:Ctx) (a:Act) (next:Act->World->Prop) (Q:Exit->Act->World->Prop),bm c H->(∀x∈o.op.operands.toList,aK c (ρ x)<|a.eval x)->
  (∀c' v H',bm c' H'->Ext c c'->X v H'->Q (.panic [{v:=v,recovered:=false}]) a c'.w)->o.wpIn (wf r) 0 P a c.w next Q
theorem Nz{x:Operand}{t:TypeId}{k:IntKind}{n:Int}(K:o.op=.panic x)(J:ρ x=.iface t (.agg [.int k n]))
  (h:X (.iface t<|.agg #[.int k n]) H):Qn P o ρ H X:=by
 intro r c a next Q hs hρ hk
 have U:=hρ x<|by rw[K];simp[Op.operands]
 rw[J]at U;generalize O:a.eval x=V at U;cases U with
 |iface _ _ v S=>
  cases S with
  |agg _ vs hl U=>
   have ay:vs= #[.int k n]:=by
    apply Array.ext j9
    intro i h1 h2;have:=by simp at h2;omega
    subst this;have:=U 0 _ _ rfl<|lq h1;simpa using this.iD
   subst ay;refine wA (zA j9) ?_;have:(execOp a.eval o).run P c.w=.halt (.panic<|.iface t (.agg #[.int k n])) c.w:=by simp only[execOp,K,O,Instr.panic,goPanic];rfl
   rw[this];exact hk c _ H hs (Ext.refl c) h
theorem Gi{f:Operand}{xs:Array Operand}{U:FuncId}{first cap:List I}(K:o.op=.call ⟨.value f,xs,ts⟩)
  (Z:ρ f=.func (.func U) first cap) (z:jr P U=true) (h:vo P U (first++xs.toList.map ρ++cap) H X):Qn P o ρ H X:=by
 intro r c a next Q hs hρ hk
 have O:=hρ f<|by grind [Op.operands,Call.operands]
 rw[Z]at O;generalize vT:a.eval f=rv at O;cases O with
 |func _ _ _ v1 v2 S cH AZ nZ=>
  obtain⟨V,Jo⟩:=Bd λx J=>hρ x (by rw[K];simp only[Op.operands,Call.operands,DR,fH];exact .inr J)
  have gX:(execOp a.eval o).run P c.w=(callFunc U (v1++xs.map a.eval++v2)).run P c.w:=by simp only[execOp,K,resolve,vT,Deferred.ofValue,Sem.run_bind,Sem.run_pure,Result.andThen_ok,invoke]
  have fV:qG c (first++xs.toList.map ρ++cap) (v1++xs.map a.eval++v2):=by
   refine⟨by simp[S,cH,V],λi x v g1 g2=>?_⟩
   by_cases h1:i<first.length
   ·rw[c6,jc h1]at g1;rw[G8,wQ gf]at g2;exact AZ _ _ _ g1 g2
   ·by_cases h2:i<first.length+(xs.toList.map ρ).length
    ·rw[c6,pH gf,jc gf]at g1;rw[G8,BD gf,wQ gf,S]at g2;exact Jo _ _ _ g1 g2
    ·rw[c6,pH gf,pH gf]at g1;rw[G8,BD gf,BD gf,S,V]at g2;exact nZ _ _ _ g1 g2
  refine wA (zA<|by rw[K];simp) ?_
  rw[gX,Fp z];refine⟨λh=>(p2 h),callsIn_wide.2 ?_⟩;refine(h c _ hs fV).mono λe w' ⟨c',v,H',ax,aq,aU,bf,b8⟩=>?_;subst ax;subst aq;exact hk c' v H' aU bf b8
theorem Wh{r:Option Nat}{N:Nat}{ops:Array Oper}{Q:Exit->Act->World->Prop}{K:a8->ab->Prop}(hd:tn N ops=true)(S:Ctx)(m:Nat):∀(os:List Oper) (k:Nat) (α:a8) (H:ab) (c:Ctx) (a:Act),
  (∀i o,os[i]?=some o->ops[k+i]?=some o)->bm c H->Ext S c->iM c N α a->gE P ops.toList os α H K->
  (∀V H' c' Z,bm c' H'->Ext S c'->iM c' N V Z->K V H'->wpOpsIn (wf r) 0 P ops Q (List.range' (k+os.length) m) Z c'.w)->wpOpsIn (wf r) 0 P ops Q (List.range' k<|os.length+m) a c.w
 |[],k,α,H,c,a,_,hs,J,U,h,hk=>by simpa using hk α H c a hs J U h
 |o::os,k,α,H,c,a,I,hs,J,U,h,hk=>by
  have ay:ops[k]?=some o:=I 0 o rfl;rw[cd,show os.length+1+m=(os.length+m)+1 by omega,BH]
  simp only[wpOpsIn,ay];have O:=Vu h r c a (wpOpsIn (wf r) 0 P ops Q<|List.range' (k+1) (os.length+m)) Q hs U.size (λt _=>U.rep t) λc' x v H' h1 h2 h3 h4=>Wh hd S m os (k+1) _ H' c' _ (λi o hi=>by have:=I (i+1) o (oq hi);rwa[show k+1+i=k+(i+1) by omega]) h1 (J.trans h2) ((U.mono h2).put (fu.1 hd o j9) h3) h4 j9
  by_cases hw:Region.wanted o (yielded ops a.tmps)=true
  ·rw[aC hw]at O ⊢;exact O
  ·rw[ar hw]at O ⊢;exact⟨λ_ _=>trivial,O⟩
theorem xp{Q:c3}(k)(o)(hd:tn N ops=true)(K:ops[k]?=some o)(S:o.guard=none)
  (h:gE P ops.toList (ops.toList.take k) α H (λJ H'=>Qn P o (bn J) H' λv U=>Q (.panic [{v:=v,recovered:=false}]) J U)):cF P N (.region id ops false) Q α H:=by
 intro r c a _ hs V;refine wpIn_region ?_;have hk:=(qA.1 K).1;have hl:(ops.toList.take k).length=k:=j9;have:=Wh (Q:=vq N c Q) hd c (ops.size-k) (ops.toList.take k) 0 α H c a (λi o hi=>j9) hs (Ext.refl c) V h λJ H' c' Z g1 g2 g3 g4=>by
   rw[lr,hl,show ops.size-k=(ops.size-k-1)+1 by omega,BH]
   simp only[wpOpsIn,K];rw[aC (by unfold Region.wanted;rw[S])]
   exact g4 r c' Z _ _ g1 (λx _=>HS g3 x) λI v U z O dx=>⟨I,J,U,rfl,z,g2.trans O,g3.mono O,dx⟩
 rw[hl,show k+(ops.size-k)=ops.size by omega]at this
 rwa[KQ]
def LX(X:Value->ab->Prop):c3
 |.panic ch,_,H=>∃v,ch=[{v:=v,recovered:=false}]/\X v H
 |_,_,_=>False
section
variable (X:Value->ab->Prop) (α:a8) (H:ab)
variable (Q:c3) (N:Nat) (y:Code) (ch:List PanicEntry)
@[go_sem] theorem aUp:wN P N y Q (.panic ch) α H=Q (.panic ch) α H:=rfl
@[go_sem] theorem aU0(v:Value):LX X (.panic [{v:=v,recovered:=false}]) α H=X v H:=by simp[LX]
end
theorem Ut{c:Ctx}{vs:Array Value}{br:List Deferred}(af:args.length<=N)(h:qG c args vs):iM (c.fG (c.w.heap.size,br)) N (mV 0 args) {tmps:=vs++Array.replicate (N-vs.size) undef,defers:=br}:=by
 obtain⟨hl,K⟩:=h;refine⟨j9,⟨bh _,[],rfl,hW,hW⟩,λt=>?_⟩;rw[aDx,Nat.sub_zero];by_cases ag:t<args.length
 ·have J:=dn ag;have U:vs[t]?=some (vs[t]'(by omega)):=lq<|_
  rw[H5 _ _ _ _ J];have:(vs++Array.replicate (N-vs.size) undef).getD t undef=vs[t]'(by omega):=by rw[He,wQ gf,U];rfl
  rw[this];exact(K t _ _ J U).fG _
 ·have:args.getD t .top=.top:=j9;rw[this];exact .top _
theorem T1(S:P.funcs[f]?=some fn)(V:fn.body=some code)(af:args.length<=fn.ntmps)
  (h:cF P fn.ntmps code (LX X) (mV 0 args) H):vo P f args H X:=by
 intro c vs hs Z;refine callsIn_wide.1<|callsIn_of_wp_marks (n:=0) S V trivial ?_;refine wpIn_mono (h none (c.fG (c.w.heap.size,[])) _ (.inl rfl) (hs.fG (c.w.heap.size,[]))<|Ut af Z) λe J w' ⟨c',ct,H',ax,I,aU,bf,U⟩=>?_;subst ax;cases e<;>simp[LX]at U;obtain⟨v,rfl,z⟩:=U;obtain⟨kI,iN,AQ,iB,bR⟩:=bf.defers;have K:=aU.base;show LeavesInM Fence.wide 0 P fn J.tmps _ J.defers (.panicking _) c'.w;rw[AQ,K];refine Jz hW [] (hs.fG (c.w.heap.size,[])) iN c' I aU iB (λD h=>?_) λo7 g1 g2 g3 _=>?_
 ·obtain⟨O,cL,dx⟩:=bR D h;exact⟨by rw[K]at O;exact O,cL,dx⟩
 ·exact⟨o7.fG c.base,v,H',rfl,rfl,g1.fG _,⟨g2.n,g2.size,g2.st,g2.ba,g2.bo,g2.os,g2.tape,g2.output,rfl⟩,z⟩
def Qk{ι:Type}(l:Nat)(F:ι->a8)(eW:ι->ab)(pre:ι->Prop)(Q:c3):c3
 |.goto hZ,α,H=>hZ=l/\∃y,pre y/\yG (F y) α/\H=eW y
 |e,α,H=>Q e α H
def Y6{ι:Type}(l:Nat)(F:ι->a8)(eW:ι->ab)(pre:ι->Prop)(m:ι->Nat)(x:ι)(Q:c3):c3:=Qk l F eW (λy=>pre y/\m y<m x) Q
section
variable {ι:Type} (l:Nat) (F:ι->a8) (eW:ι->ab) (pre:ι->Prop) (m:ι->Nat) (x:ι) (Q:c3) (α:a8) (H:ab)
@[go_sem] theorem aVW:Qk l F eW pre Q .ret α H=Q .ret α H:=rfl
attribute [go_sem] Y6
end
theorem X0{l:Nat}{Q:c3}(h:Q (.goto l) α H):cF P N (.goto l) Q α H:=
 λ_ c _ _ hs J=>wpIn_goto ⟨c,α,H,rfl,hs,Ext.refl c,J,h⟩
theorem aDQ{rest:Code}{Q:c3}{ι:Type}(l:Nat)(F:ι->a8)(eW:ι->ab)(pre:ι->Prop)(m:ι->Nat)(aA:findLabel code l=some rest)(eh:ug rest=true)
  (first:cF P N code (Qk l F eW pre Q) α H) (pass:∀x,pre x->cF P N rest (Y6 l F eW pre m x Q) (F x) (eW x)):cF P N (.scope code) Q α H:=by
 intro r c a aw hs aG b k cs A1 z pr;have aP:gotoIn l (.inScope code::k)=some (.code rest::.inScope code::k):=by simp[gotoIn,aA]
 have Z:step P (lone (b.atR a (.code (.scope code)::k)) cs c.w)=.next (lone (b.atR a (.code code::.inScope code::k)) cs c.w):=step_lone_go<|rfl;have s1:∀(a) (w),step P (lone (b.atR a (.inScope code::k)) cs w)=.next (lone (b.atR a k) cs w):=λa w=>step_lone_go<|rfl
 have key:∀n x (c₁) (a),m x=n->pre x->bm c₁ (eW x)->Ext c c₁->iM c₁ N (F x) a->
   ∃e cQ w',vq N c Q e cQ w'/\ArrivesIn (Machine.fenced P<|wf r) P (lone (b.atR a (.code rest::.inScope code::k)) cs c₁.w) b k cs e cQ w':=by
  intro n;induction n using Nat.strongRecOn with
  |_ n aB=>
   intro x c₁ a af J hs I aG;obtain⟨e,K,pF,⟨c₂,S,V,ax,O,aU,bf,aM⟩,U⟩:=pass x J r c₁ a (.inr eh) hs aG b (.inScope code::k) cs A1 z pr;subst ax;cases e with
   |normal=>exact⟨.normal,K,c₂.w,⟨c₂,S,V,rfl,O,I.trans aU,bf,aM⟩,StepsIn.trans U<|.one (fenced_calm z pr rfl) (s1 _ _)⟩
   |exit id=>exact⟨.exit id,K,c₂.w,⟨c₂,S,V,rfl,O,I.trans aU,bf,aM⟩,λk' hk=>U.1 k' (by simp[exitTo,hk]),λhL hk=>U.2 hL<|by simp[exitTo,hk]⟩
   |goto hZ=>obtain⟨rfl,y,⟨aJ,av⟩,A2,rfl⟩:=aM;obtain⟨IE,QW,Uf,Jn,I0⟩:=aB _ gf y c₂ K rfl aJ O (I.trans aU)<|bf.weaken (xu A2);exact⟨IE,QW,Uf,Jn,.of_steps (U.1 _ aP) I0⟩
   |ret=>exact⟨_,K,c₂.w,⟨c₂,S,V,rfl,O,I.trans aU,bf,aM⟩,U⟩
   |panic ch=>exact⟨_,K,c₂.w,⟨c₂,S,V,rfl,O,I.trans aU,bf,aM⟩,U⟩
   |outgrown=>exact⟨_,K,c₂.w,⟨c₂,S,V,rfl,O,I.trans aU,bf,aM⟩,U⟩
 have ay:(lone (b.atR a (.code (.scope code)::k)) cs c.w).fenced P (wf r):=fenced_calm z pr rfl;obtain⟨e,K,pF,⟨c₂,S,V,ax,O,aU,bf,aM⟩,U⟩:=first r c a (aw.imp_right λh=>h) hs aG b (.inScope code::k) cs A1 z pr
 subst ax;cases e with
 |normal=>exact⟨.normal,K,c₂.w,⟨c₂,S,V,rfl,O,aU,bf,aM⟩,.head ay Z<|StepsIn.trans U (.one (fenced_calm z pr rfl) (s1 _ _))⟩
 |exit id=>exact⟨.exit id,K,c₂.w,⟨c₂,S,V,rfl,O,aU,bf,aM⟩,λk' hk=>.head ay Z<|U.1 k' (by simp[exitTo,hk]),λhL hk=>let⟨k₁,h1,h2⟩:=U.2 hL (by simp[exitTo,hk]);⟨k₁,h1,.head ay Z h2⟩⟩
 |goto hZ=>obtain⟨rfl,y,aJ,A2,rfl⟩:=aM;obtain⟨IE,QW,Uf,Jn,I0⟩:=key _ y c₂ K rfl aJ O aU<|bf.weaken (xu A2);exact⟨IE,QW,Uf,Jn,.of_steps (.one ay Z)<|.of_steps (U.1 _ aP) I0⟩
 |ret=>exact⟨_,K,c₂.w,⟨c₂,S,V,rfl,O,aU,bf,aM⟩,.of_steps (.one ay Z) U⟩
 |panic ch=>exact⟨_,K,c₂.w,⟨c₂,S,V,rfl,O,aU,bf,aM⟩,.of_steps (.one ay Z) U⟩
 |outgrown=>exact⟨_,K,c₂.w,⟨c₂,S,V,rfl,O,aU,bf,aM⟩,.of_steps (.one ay Z) U⟩
theorem Dn(o:Ord)(ad:o.call.path.length<=1048576)(ag:o.call.to.length<=1048576)(H:ab):aO prog 45 [da o] H (.bool<|gF o):=by
 refine bg func45 ?_;have J:=Ld o.call ad ag;obtain⟨K,⟨U,O,to,S,n⟩,Te,ps⟩:=o;unfold da;unfold cy at J;simp only at J ⊢;repeat' first|(refine ae ?_;simp only[go_sem])|refine bp ?_|(refine bz ?_ ?_<;>intro h<;>try exact bx h)|fail
 all_goals exact aX<|.of (by first|(simp_all[gF,eK];done)|(simp_all[gF,eK];grind))
def rA(j k:Nat)(t:al)(R:List I):List I:=.osl 1 j (k+1) 0 t.length t.length::R
structure jG (i j k:Nat) (t:al) (R:List I) (G:ab):Prop where
 ne:i<j
 aW:az G i=.cells 0 (rA j k t R)
 bA:az G j=.cells (k+1) (ck t)
def gR(G:ab)(i j k:Nat)(t:al)(R:List I):ab:=an (an G j (.cells (k+1) (ck t))) i<|.cells 0 (rA j k t R)
theorem Dx(G:ab)(i j k:Nat)(t:al)(R:List I):(gR G i j k t R).length=G.length:=by unfold gR;rw[bc,bc]
section
variable {i j k:Nat} {t:al} {R:List I} {G:ab} (h:jG i j k t R G)
include h
theorem jG.eV:i<G.length:=cZ h.aW trivial
theorem jG.fF:j<G.length:=cZ h.bA trivial
theorem jG.own:gR G i j k t R=G:=by unfold gR;rw[kf h.bA trivial,kf h.aW trivial]
theorem jG.app(L:ab):jG i j k t R (G++L):=⟨h.ne,bX h.aW trivial L,bX h.bA trivial L⟩
theorem jG.pV(k':Nat)(t':al)(R':List I)(L:ab):gR (G++L) i j k' t' R'=gR G i j k' t' R'++L:=by unfold gR;rw[gU h.fF,gU<|by rw[bc];exact h.eV]
theorem jG.put(k':Nat)(t':al)(R':List I):jG i j k' t' R' (gR G i j k' t' R'):=by
 have J:¬j=i:=oC h.ne;refine⟨h.ne,dK (by rw[bc];exact h.eV) _,?_⟩
 unfold gR;rw[sW _ _ _ J];exact dK (by rw[bc];exact h.fF) _
theorem jG.sq(k1 k2:Nat)(t1 t2:al)(U J:List I):gR (gR G i j k1 t1 U) i j k2 t2 J=gR G i j k2 t2 J:=by have K:¬j=i:=oC h.ne;unfold gR;rw[sW (an G j _) _ _ (λe=>K e.symm),jd,jd]
end
def BV(P:Program)(f:FuncId)(i j:Nat)(args:List I)(G:ab)(v:I)(t:al)(R:List I):Prop:=cV P f (.ref i 0 0::args) G (λx H'=>x=v/\∃k,H'=gR G i j k t R)
def jf(l:List Int):al:=l.flatMap λn=>bT n.toNat
theorem aLI{j:Nat}(U:j<n)(k:Nat)(t:al){R:List I}(K:∀x∈R,cN n x):ed n (.cells 0<|rA j k t R):=λx J=>by
 unfold rA at J;rcases db.1 J with rfl|J
 ·exact .osl _ _ _ _ _ _ U
 ·exact K x J
theorem Ql(n v:Nat)(t:al):ed n (.cells v<|ck t):=λx J=>by obtain⟨b, -,rfl⟩:=bP.1 J;exact .int _ _
theorem rb{j k k':Nat}{t t':al}{R R':List I}{G A L:ab}(h:jG i j k t R G)(J:∀x∈R',cN G.length x){v w:I}(U:cJ G.length (A++L) v w)(K:A=gR G i j k' t' R'):
  ∃H1 O y,A++L=H1++O/\H1.length=G.length/\(∀(k:Nat) (b:bD),H1[k]?=some b->G[k]?=some b\/ed G.length b)/\cJ G.length (A++L) v y/\(y=w/\∃k,H1=gR G i j k t' R'):=by
 subst K;refine⟨_,L,_,rfl,Dx _ _ _ _ _ _,λk b hk=>?_,U,rfl,_,rfl⟩;unfold gR at hk;rcases ns (aLI h.fF k' t' J) k b hk with hk|hk
 ·exact ns (Ql _ _ _) k b hk
 ·exact .inr hk
theorem jq(h:n<=9223372036854775807):(bT n).length<=9:=Di n h
theorem rU(f:Bool)(l:List Int){j k:Nat}{t:al}{R:List I}(hw:jG i j k t R H)(hl:∀n∈l,n<=9223372036854775807)(S:l.length<=1000)(aa:t.length<=140737479966720):
  BV prog 50 i j [.sl f (l.map bu)] H (.aN []) (t++jf l) R:=by
 refine mS func50 ?_;refine a7 ?_;obtain⟨D,J⟩:∃D:Nat->al,∀q,D q=t++jf (l.take q):=⟨_,λ_=>rfl⟩;have V:∀q (h:q<l.length),D (q+1)=D q++bT l[q].toNat:=λq h=>by rw[J,J,hc h];unfold jf;rw[qx,<-c6];simp only[nj,DQ,cE]
 have Z:∀q,q<=l.length->(D q).length<=t.length+9 * q:=by
  intro q;induction q with
  |zero=>intro _;rw[J];simp[jf]
  |succ q z=>
   intro h;have h3:=jq (n:=l[q].toNat) (oC<|hl _ (fQ<|show q<l.length by omega))
   rw[V q gf,bw];have:=z gf;omega
 have xx:D 0=t:=by rw[J];simp[jf]
 refine c7 (ι:=Nat) (λq=>[(0,.ref i 0 0),(8,.sl f<|l.map bu),(9,.int .i64 l.length),(10,.int .i64 q)]) (λq=>gR H i j (k+q) (D q) R) (λq=>q<=l.length) (λq=>l.length-q) 0 (cb _) ?_ (by rw[xx];exact hw.own.symm) ?_
 ·simp[go_sem]
 intro q aM;have U:=hw.put (k+q) (D q) R;have ag:=λt'=>hw.sq (k+q) (k+(q+1)) (D q) t' R R;have bL:k+(q+1)=k+q+1:=rfl;rw[bL]at ag;generalize aYd:k+q=K at *;obtain⟨G,a7⟩:∃G,gR H i j K (D q) R=G:=⟨_,rfl⟩;rw[a7]at U ag ⊢;have iS:=Z q aM;by_cases O:q<l.length
 ·have af:=hl _<|fQ O;have hs:=V q O;generalize D q=T at hs U ag a7 iS ⊢;have g0:=U.aW;have g2:=U.bA;unfold rA at g0;have aT:=U.ne;have bd:=g0;have aS:=bE g0 trivial;have aY:=bE g2 trivial;have cM:=cZ g0 trivial;have S:=cZ g2 trivial;have a6:=λX L=>bX (bN g2 (show ¬i=j by omega) X) trivial L;have bb:=λX=>bN g2 (show ¬i=j by omega) X;have b3:=bc G<|i;have bI:=od cM S (show i<j by omega)<|rfl;have dm:=λX=>bN g0 (show ¬j=i by omega) X;have ey:=λX v Y=>dK (show i<(an G j X).length by rw[bc];omega)<|.cells v Y;have ks:=λX L=>bX (dm X) trivial L
  have ad:=ek bu O;have bl:decide ((q:Int)<(l.length:Int))=true:=cS;have v7:max l[q] 0=((l[q].toNat:Nat):Int):=gf;have vI:=jq (n:=l[q].toNat) gf;have aF:∀H,aO prog 49 [.str [],.sl true [.int .i64 l[q].toNat]] H (.aN [.str (bT l[q].toNat),.int .i64 0]):=λH=>by simpa using Be [] l[q].toNat true gf hW H
  repeat' first|(refine ae ?_;simp only[go_sem,ad,bl,v7,bu,g2,bd,aS,aY,a6,bb,dm,ey,ks,b3,bI])|refine ai ?_|fail
  refine⟨q+1,O,gf,b7 _<|eb O gf,?_⟩
  rw[hs,show k+(q+1)=K+1 by omega,<-ag]
  unfold gR rA;rw[wE,bw]
 ·have eI:q=l.length:=gf;subst eI;refine hH ?_;exact⟨_,by rw[<-a7,J,fe]⟩
structure lX (o:Ord):Prop where
 path:o.call.path.length<=1048576
 to:o.call.to.length<=1048576
 data:o.call.data.length<=1048576
 n:o.call.n<=9223372036854775807
 pick:o.pick<=9223372036854775807
 cC:o.cC.length<=1048576
theorem kX{t:al}(h:t.length<=9223372036854775807):(dj t).length<=9+t.length:=by have:=jq h;unfold dj;rw[bw];omega
theorem GG{p:Int}{t:al}(h:t.length<=9223372036854775807):(pD p q t).length<=9+t.length:=by
 unfold pD;split
 ·simp
 ·exact kX h
theorem W5{c:cg}(h1:c.path.length<=1048576)(h2:c.to.length<=1048576)(h3:c.data.length<=1048576)(h4:c.n<=9223372036854775807):(ub c).length<=3145773:=by
 unfold ub;split
 ·simp
 ·rename_i p ad;have ay:=NY ad;have a0:=jq (n:=c.kind.toNat) gf;have J:=GG (p:=p) (q:=1) (t:=c.path) gf;have a2:=GG (p:=p) (q:=2) (t:=c.to) gf;have a3:=GG (p:=p) (q:=4) (t:=c.data) gf;have a4:(rk p c.n).length<=9:=by
   unfold rk;split
   ·simp
   ·exact jq gf
  simp only[bw];omega
theorem Uu{o:Ord}(h:gF o=true):o.kind=1/\kY o.call=true\/o.kind=2/\0<=o.pick\/o.kind=3\/o.kind=4:=by
 unfold gF at h
 (repeat' split at h)<;>simp_all
theorem aHw{o:Ord}(hs:lX o)(h:gF o=true):(sA o).length<=3145782:=by
 have hk:=Uu h;have a0:=jq (n:=o.kind.toNat) gf;have J:=W5 hs.path hs.to hs.data hs.n;have a2:=jq (n:=o.pick.toNat) (oC hs.pick);have a3:=kX (t:=o.cC) (oC hs.cC);have:=hs.cC;unfold sA;rw[bw]
 (repeat' split)<;>first|omega|(simp;omega)
def Wi:List cK:=[.aQ,.aQ,.ah 0,.ah 0,.ah 0,.aQ,.ah 0,.bW [false,false,true,true],.ah 0,.ah 0,.bW [false,true]]
attribute [go_sem] Wi
theorem Bf(s:al){j k:Nat}{t:al}{R:List I}(hw:jG i j k t R H)(hs:s.length<=1099511627776)(K:t.length<=137438953472000):
  BV prog 48 i j [.str s] H (.aN []) (t++dj s) R:=by
 refine mS func48 ?_;have O:=nB [(0,Wi)];obtain⟨G,a7⟩:∃G,H=G:=⟨_,rfl⟩;rw[a7]at hw ⊢;have g0:=hw.aW;have g2:=hw.bA;unfold rA at g0;have S:=hw.ne;have V:=g0;have Z:=bE g0 trivial;have z:=bE g2 trivial;have J:=cZ g0 trivial;have U:=cZ g2 trivial;have a6:=λX L=>bX (bN g2 (show ¬i=j by omega) X) trivial L;have bb:=λX=>bN g2 (show ¬i=j by omega) X;have b3:=bc G<|i;have bI:=od J U (show i<j by omega)<|rfl;have dm:=λX=>bN g0 (show ¬j=i by omega) X;have ey:=λX v Y=>dK (show i<(an G j X).length by rw[bc];omega)<|.cells v Y;have ks:=λX L=>bX (dm X) trivial L
 have aF:∀H,aO prog 24 [.str [],.str s] H (.str<|dj s):=λH=>by simpa using zt [] s hW gf nc H
 have hl:=kX (t:=s) gf;generalize dj s=T at *;have iA:((t.length+T.length) * 1<=140737488355328)=True:=b1 gf;refine hH ?_;exact⟨k+1,by unfold gR rA;rw[wE,bw]⟩
def QA(o:Ord):al:=if gF o=true then sA o else[]
theorem Wj(n:Int):jf [n]=bT n.toNat:=by simp[jf]
theorem aHx(o:Ord){j k:Nat}{t:al}{R:List I}(hw:jG i j k t R H)(O:∀x∈R,cN H.length x)(J:lX o)(aa:t.length<=137438950000000):
  BV prog 91 i j [da o] H (.bool<|gF o) (t++QA o) R:=by
 refine h9 func91 ?_;have V:=Dn o J.path J.to;unfold QA;cases hk:gF o with
 |false=>rw[hk]at V;refine bL da.eq_1 ?_;exact rb hw O (.cl _<|.bool _) hw.own.symm
 |true=>
  rw[hk]at V;rw[aC rfl];have Z:=Uu hk;have vI:=jq (n:=o.kind.toNat) gf;refine bL da.eq_1 ?_;refine c4 (rU true [o.kind] (hw.app _) nc hW gf) aI ?_;rintro v H' ⟨rfl,k1,rfl⟩;rw[hw.pV,Wj];have hl:=Dx H i j k1 (t++bT o.kind.toNat) R;have U:=hw.put k1 (t++bT o.kind.toNat) R;have S:=λt' k'=>hw.sq k1 k' (t++bT o.kind.toNat) t' R R;have vL:(t++bT o.kind.toNat).length<=t.length+9:=by rw[bw];omega
  have z:t++sA o=(t++bT o.kind.toNat)++(if o.kind=1 then ub o.call else if o.kind=2 then bT o.pick.toNat else if o.kind=4 then dj o.cC else[]):=by unfold sA;rw[c6]
  rw[z];generalize gR H i j k1 (t++bT o.kind.toNat) R=G at *;generalize t++bT o.kind.toNat=T at *;have g0:=U.aW;have g2:=U.bA;unfold rA at g0;have aT:=U.ne;have bd:=g0;have aS:=bE g0 trivial;have aY:=bE g2 trivial;have cM:=cZ g0 trivial;have cH:=cZ g2 trivial;have a6:=λX L=>bX (bN g2 (show ¬i=j by omega) X) trivial L;have bb:=λX=>bN g2 (show ¬i=j by omega) X;have b3:=bc G<|i;have bI:=od cM cH (show i<j by omega)<|hl;have dm:=λX=>bN g0 (show ¬j=i by omega) X;have ey:=λX v Y=>dK (show i<(an G j X).length by rw[bc];omega)<|.cells v Y;have ks:=λX L=>bX (dm X) trivial L
  rcases Z with⟨K,jt⟩|⟨K,uC⟩|K|K
  ·have ad:=aLa [] o.call J.path J.to J.data J.n hW;have dL:=W5 J.path J.to J.data J.n;rw[aC jt]at ad;rw[aC K];simp only[jb,cy]at ad;generalize ub o.call=X at *;have iA:((T.length+X.length) * 1<=140737488355328)=True:=b1 gf;simp only[go_sem];refine hH ?_;exact rb hw O (.cl _ (.bool _))<|by rw[<-S _ (k1+1)];unfold gR rA;rw[wE,bw]
  ·rw[ar gf,aC K];simp only[go_sem];refine hH ?_;refine c4 (rU true [o.pick] (U.app _) (by have:=J.pick;simp;omega) hW gf) aI ?_
   rintro v H' ⟨rfl,k2,rfl⟩;rw[U.pV,Wj];simp only[go_sem];refine a7 ?_;exact rb hw O (.cl _ (.bool _))<|S _ _
  ·rw[ar gf,ar gf,ar gf];simp only[go_sem];refine hH ?_;exact rb hw O (.cl _ (.bool _))<|by rw[<-S _ k1];exact U.own.symm
  ·rw[ar gf,ar gf,aC K];simp only[go_sem];refine hH ?_;refine c4 (Bf o.cC (U.app _) (oC J.cC) gf) aI ?_;rintro v H' ⟨rfl,k2,rfl⟩;rw[U.pV];simp only[go_sem];refine a7 ?_;exact rb hw O (.cl _ (.bool _))<|S _ _
def yC(r s:Int)(l:List Ord):Bool:=decide (0<=r)&&(decide (r<=63)&&(decide (0<=s)&&(decide (s<=1000)&&l.all gF)))
theorem Yd(f:Bool)(r s:Int)(l:List Ord){j k:Nat}{t:al}{R:List I}(hw:jG i j k t R H)(z:∀x∈R,cN H.length x)(aw:r<=9223372036854775807)(hs:s<=9223372036854775807)(aD:∀o∈l,lX o)(hl:l.length<=1048576)(aa:t.length<=1000):
  cV prog 46 [.ref i 0 0,.int .i64 r,.int .i64 s,.sl f<|l.map da] H (λx H'=>x=.bool (yC r s l)/\∃k T,H'=gR H i j k T R/\(yC r s l=true->T=t++(bT r.toNat++(bT s.toNat++sI l)))):=by
 refine h9 func46 ?_;repeat' first|(refine ae ?_;simp only[go_sem])|refine bp ?_|(refine bz ?_ ?_<;>intro h<;>try exact bx h)|fail
 ·have aA:yC r s l=false:=by
   rw[wV];intro q;unfold yC at q;simp at q h;omega
  obtain⟨H1,L,y,O,a2,a3,a4,a5,k1,S⟩:=rb (L:=[]) hw z (v:=.bool false) (.cl _<|.bool _) hw.own.symm;rw[cE]at O a4;exact⟨H1,L,y,O,a2,a3,a4,by rw[a5,aA],k1,t,S,λq=>by rw[aA]at q;cases q⟩
 have xB:0<=r/\r<=63/\0<=s/\s<=1000:=by simp at h;omega
 have bq:yC r s l=l.all gF:=by unfold yC;rw[dr xB.1,dr xB.2.1,dr xB.2.2.1,dr xB.2.2.2];rfl
 have vI:=jq (n:=r.toNat) gf;have aX7:=jq (n:=s.toNat) gf;have mA:jf [r,s]=bT r.toNat++bT s.toNat:=by simp[jf]
 refine c4 (rU true [r,s] hw nc hW gf) aI ?_;rintro v H' ⟨rfl,xO,rfl⟩;obtain⟨T,cX⟩:∃T:Nat->al,∀q,T q=t++(bT r.toNat++(bT s.toNat++sI (l.take q))):=⟨_,λ_=>rfl⟩;have ME:T 0=t++jf [r,s]:=by rw[cX,mA];simp[sI]
 have mY:∀q (h:q<l.length),T (q+1)=T q++sA l[q]:=λq h=>by rw[cX,cX,hc h];unfold sI;rw[qx];simp only[nj,DQ,cE,c6]
 have vL:∀q,q<=l.length->(l.take q).all gF=true->(T q).length<=1018+3145782 * q:=by
  intro q;induction q with
  |zero=>intro _ _;rw[cX];simp[sI];omega
  |succ q aB=>
   intro h U;rw[hc gf,Hl,dp]at U;have:=aB gf U.1;have:=aHw (aD _ (fQ (show q<l.length by omega)))<|oq U.2
   rw[mY q gf,bw];omega
 rw[<-ME];simp only[go_sem];repeat' first|(refine ae ?_;simp only[go_sem])|refine ai ?_|fail
 refine c7 (ι:=Nat×Nat×ab) (λx=>[(0,.ref i 0 0),(1,.int .i64 r),(2,.int .i64 s),(3,.sl f<|l.map da),(30,.sl f<|l.map da),(31,.int .i64 l.length),(32,.int .i64 x.1)]) (λx=>gR H i j x.2.1 (T x.1) R++x.2.2) (λx=>x.1<=l.length/\(l.take x.1).all gF=true) (λx=>l.length-x.1) (0,xO,[]) ⟨cb _,hW⟩ ?_ hW ?_
 ·simp[go_sem]
 rintro⟨q,k1,M⟩ ⟨aM,U⟩;simp only at aM U ⊢;have dw:=hw.put k1 (T q) R;by_cases K:q<l.length
 ·have ad:=ek da K;have bl:decide ((q:Int)<(l.length:Int))=true:=cS;have aYi:=vL q aM U;have aOO:=mY q K;have hlen:=Dx H i j k1 (T q) R;have key:∀k2 lY B,gR (gR H i j k1 (T q) R++M++[B]) i j k2 lY R=gR H i j k2 lY R++(M++[B]):=λk2 lY B=>by
   rw[c6,dw.pV,hw.sq]
  have V:=dw.app M;obtain⟨G,a7⟩:∃G,gR H i j k1 (T q) R++M=G:=⟨_,rfl⟩;have AI:H.length<=G.length:=by rw[<-a7,bw,hlen];omega
  have M5:=aD _<|fQ K;have hn:(l.take (q+1)).all gF=gF l[q]:=by rw[hc K,Hl,U];simp
  have Z:gF l[q]=false->l.all gF=false:=λe=>by rw[wV];intro w;have:=fu.1 w _<|fQ K;rw[e]at this;cases this
  rw[a7]at V key ⊢;generalize l[q]=o at *;repeat' first|(refine ae ?_;simp only[go_sem,ad,bl,da])|refine ai ?_|fail
  refine c4 (aHx o (V.app _) (λx J=>(z x J).mono (by rw[bw];omega)) M5 gf) aI ?_
  rintro v H' ⟨rfl,k2,rfl⟩;rw[key];unfold QA;cases eZ:gF o with
  |true=>
   rw[aC rfl,<-aOO];simp only[go_sem];repeat' first|(refine ae ?_;simp only[go_sem])|refine ai ?_|fail
   exact⟨(q+1,k2,M++[_]),⟨K,by rw[hn];exact eZ⟩,by simp only;omega,b7 _<|eb K gf,rfl⟩
  |false=>
   rw[ar ko];simp only[go_sem];repeat' first|(refine ae ?_;simp only[go_sem])|refine ai ?_|fail
   obtain⟨H1,L,y,O,a2,a3,a4,a5,k3,S⟩:=rb (L:=M++[.cells 0 (da o).cells]) hw z (v:=.bool false) (.cl _<|.bool _) rfl;exact⟨H1,L,y,O,a2,a3,a4,by rw[a5,bq,Z eZ],k3,_,S,λw=>by rw[bq,Z eZ]at w;cases w⟩
 ·have eI:q=l.length:=gf;subst eI;rw[fe]at U;repeat' first|(refine ae ?_;simp only[go_sem,K])|refine ai ?_|fail
  obtain⟨H1,L,y,O,a2,a3,a4,a5,k3,S⟩:=rb (L:=M) hw z (v:=.bool true) (.cl _<|.bool _) rfl;exact⟨H1,L,y,O,a2,a3,a4,by rw[a5,bq,U],k3,_,S,λ_=>by rw[cX,fe]⟩
def BW:Option Value->FrameMode
 |none=>.returning
 |some v=>.panicking [{v:=v,recovered:=false}]
def ZF:Option Value->Value
 |none=>.nilIface
 |some v=>v
def tR(P:Program)(g:FuncId)(args:List I)(H:ab)(u:Option Value)(R:ab->Prop):Prop:=
 ∀(c:Ctx) (vs:Array Value),bm c H->qG c args vs->
  CallsDIn Fence.wide 0 P g vs (BW u) c.w (λe lT w'=>∃c' v H',e=.returned v/\settle lT=.returning/\c'.w=w'/\bm c' H'/\Ext c c'/\R H')
theorem tR.mono{g:FuncId}{args:List I}{H:ab}{u:Option Value}{R R':ab->Prop}(h:tR P g args H u R)(J:∀H,R H->R' H):tR P g args H u R':=
 λc vs hs U=>(h c vs hs U).mono λ_ _ _ ⟨c',v,H',ax,K,aU,bf,O,S⟩=>⟨c',v,H',ax,K,aU,bf,O,J _ S⟩
def Oq:Op->Bool
 |.move _|.assign _|.alloc _|.store _ _ _|.typeAssert _ _ _ _|.extract _ _=>true
 |_=>false
theorem aDX{c:Ctx}(hk:Oq o.op=true)(hs:(cr P o.op ρ H).s)(J:bm c H)(hρ:∀x∈o.op.operands.toList,aK c (ρ x)<|a.eval x):
  ∃c' v,((execOp a.eval o).run P c.w=.ok (.value v) c'.w\/(execOp a.eval o).run P c.w=.ok .skip c'.w/\v=undef)/\bm c' (cr P o.op ρ H).H/\Ext c c'/\aK c' (cr P o.op ρ H).v v:=by
 obtain⟨dst,op,ty,pos,after,guard⟩:=o;cases op<;>(first|(cases hk;done)|skip)<;>simp only[cr,su]at hs hρ ⊢
 case move x=>exact⟨c,_,.inl rfl,J,Ext.refl c,hρ x<|by simp[Op.operands]⟩
 case assign x=>exact⟨c,_,.inl rfl,J,Ext.refl c,hρ x<|by simp[Op.operands]⟩
 case alloc t=>obtain⟨c',v,h1,h2,h3,h4⟩:=VJ J hs;exact⟨c',v,.inl (by simp only[execOp,Sem.run_bind,h1];rfl),h2,h3,h4⟩
 case store t x y=>
  have U:(yE P t (ρ x) (ρ y) H).v=.top:=by unfold yE;split<;>(try split)<;>rfl
  rw[U];obtain⟨w',h1,h2,h3⟩:=VI J (hρ x<|by simp[Op.operands]) (hρ y<|by simp[Op.operands]) hs
  exact⟨_,_,.inr ⟨by simp only[execOp,Sem.run_bind,h1];rfl,rfl⟩,h3,h2,.top _⟩
 case typeAssert x xt t ok=>
  obtain⟨v,h1,h2⟩:=aDp (xt:=xt) (hρ x<|by simp[Op.operands]) hs c.w
  exact⟨c,v,.inl (by simp only[execOp,Sem.run_bind,h1];rfl),J,Ext.refl c,h2⟩
 case extract x i=>
  obtain⟨v,h1,h2⟩:=aCV (P:=P) (hρ x<|by simp[Op.operands]) hs c.w
  exact⟨c,v,.inl (by simp only[execOp,Sem.run_bind,h1];rfl),J,Ext.refl c,h2⟩
theorem aEy{all os:List Oper}{k:a8->ab->Prop}(hk:Oq o.op=true)(J:o.guard=none)(h:gE P all (o::os) α H k):
  (cr P o.op (bn α) H).s/\gE P all os (cP o.dst (cr P o.op (bn α) H).v α) (cr P o.op (bn α) H).H k:=by
 obtain⟨dst,op,ty,pos,after,guard⟩:=o;subst J;cases op<;>first|(cases hk;done)|exact h
theorem aDg{N:Nat}{ops:Array Oper}{K:a8->ab->Prop}{Q:Exit->Act->List Frame->World->Prop}(hd:tn N ops=true)(O:Ctx)(cs:List Frame):∀(os:List Oper) (k:Nat) (α:a8) (H:ab) (c:Ctx) (a:Act),
  (∀i,os[i]?=ops[k+i]?)->(∀o∈os,Oq o.op=true/\o.guard=none)->bm c H->Ext O c->iM c N α a->gE P ops.toList os α H K->
  (∀S H' c' V,bm c' H'->Ext O c'->iM c' N S V->K S H'->Q .normal V cs c'.w)->wpOpsSIn Fence.wide 0 P ops Q (List.range' k os.length) a cs c.w
 |[],k,α,H,c,a,_,_,hs,J,U,h,hk=>hk α H c a hs J U h
 |o::os,k,α,H,c,a,Z,I,hs,J,U,h,hk=>by
  have ay:=by simpa using(Z 0).symm
  obtain⟨s1,s2⟩:=I o hW;obtain⟨g1,g2⟩:=aEy s1 s2 h;obtain⟨c',v,ax,z,aU,bf⟩:=aDX s1 g1 hs λx _=>HS U x;have hw:Region.wanted o (yielded ops a.tmps)=true:=by unfold Region.wanted;rw[s2]
  have rest:=aDg hd O cs os (k+1) _ _ c' (a.put o.dst v) (λi=>by have:=Z<|i+1;grind) (λo aD=>I o<|by simp[aD]) z (J.trans aU) ((U.mono aU).put (fu.1 hd o j9) bf) g2 hk
  simp only[cd,BH,wpOpsSIn,ay,hw];refine⟨λ_ _=>trivial,?_⟩;rcases ax with ax|⟨ax,rfl⟩
  ·rw[ax];exact rest
  ·rw[ax];exact rest
theorem UK{O:Ctx}{eD H:ab}(ay:bm O eD)(cs:List Frame):∀(K:List Nat) (c:Ctx),bm c H->Ext O c->K.Nodup->
  (∀D∈K,O.w.heap.size<=D/\c.hb D/\c.w.heap[D]?=some (.deferred<|some []))->
  ∃c',bm c' H/\Ext O c'/\zQ c c'/\∀U:Frame,U.mode≠.run->U.defers=K.map (λD=>{target:=.collected D,args:= #[]})->Steps P (lone U cs c.w) (lone {U with defers:=[]} cs c'.w)
 |[],c,V,J,_,_=>⟨c,V,J,⟨bh _,λ_ h=>h,λ_ _=>rfl,λ_ _=>bh _,λ_ _ _=>⟨rfl,rfl,λ_=>rfl⟩⟩,λU _ hd=>by
  have:({U with defers:=[]})=U:=by cases U;subst hd;rfl
  rw[this];exact .refl _ _⟩
 |D::K,c,V,J,af,Z=>by
  obtain⟨yV,pU,S⟩:=Z D hW;have I:=tK.1 af;obtain⟨c',g1,g2,g3,g4⟩:=UK ay cs K (c.shut D) (V.shut pU S) (Ext.shut ay J yV S) I.2 (λE eF=>by obtain⟨aL,aR,bC⟩:=Z E j9;exact⟨aL,aR,(World.putObj_heap_other (λe=>I.1 j9)).trans bC⟩)
  have k:=JX S;refine⟨c',g1,g2,⟨g3.n,g3.st,λa z=>(g3.cell a z).trans<|k.cell a z,g3.ba,λi hi he=>?_⟩,λU hm hd=>.head (step_collected hm hd rfl (run_takeDeferred S))<|g4 {U with defers:=[]++K.map (λD=>{target:=.collected D,args:= #[]})} hm rfl⟩
  obtain⟨cw,cL,dx⟩:=g3.bo i hi he;exact⟨cw,cL,λhd=>(dx hd).trans<|(k.bo i hi rfl).2.2 hd⟩
theorem aD1{c:Code}{args:Array Value}{u:FrameMode}{R:Ending->FrameMode->World->Prop}(Z:P.funcs[f]?=some fn)(aa:fn.body=some c)
  (h:∀(U) (cs),U.mode=u->c.wpSIn Fence.wide n P (λe a O w=>(e=.normal\/e=.ret)/\∃K,O={U with mode:=K}::cs/\∃J v,
   (∀S,S.mode≠.run->S.defers=a.defers->Steps P (lone S O w) (lone {S with defers:=[]} O J))/\(results fn a.tmps).run P J=.ok v J/\R (.returned v) K J)
    {tmps:=args++Array.replicate (fn.ntmps-args.size) undef,defers:=[]} (U::cs) w):CallsDIn Fence.wide n P f args u w R:=by
 refine⟨trivial,λU cs hu pr=>?_⟩;let b:={(default:Frame)with fn:=f,kind:=.deferred,roundOf:=none}
 have I:Frame.enter P f args .deferred=b.atR {tmps:=args++Array.replicate (fn.ntmps-args.size) undef,defers:=[]} [.code c]:=by simp[Frame.enter,Frame.atR,Z,aa,b]
 obtain⟨e,V,O,w',hl,⟨he,K,rfl,J,v,aj,aw,eY⟩,z⟩:=h U cs hu b [] rfl rfl trivial (room_wide _);rw[<-I]at z;rcases he with rfl|rfl
 ·exact⟨.returned v,K,J,{b.atR V []with mode:=.returning,defers:=[]},eY,stepsIn_wide.2<|(stepsIn_wide.1 z).trans (.head (stepR_end rfl) (aj {b.atR V []with mode:=.returning} hW rfl)),rfl,rfl,rfl,rfl,fn,Z,aw⟩
 ·obtain⟨todo,lM⟩:=z.1 rfl;exact⟨.returned v,K,J,{b.atR V todo with mode:=.returning,defers:=[]},eY,stepsIn_wide.2<|(stepsIn_wide.1 lM).trans (aj {b.atR V todo with mode:=.returning} hW rfl),rfl,rfl,rfl,rfl,fn,Z,aw⟩
theorem U7{B:Code}{post:List Oper}{u:Option Value}{R:ab->Prop}(x:I)
  (aA:P.funcs[g]?=some fn) (aa:fn.body=some (.seq (.region id ops false) B)) (af:args.length<=fn.ntmps) (Sk:fn.results= #[]) (hd:tn fn.ntmps ops=true)
  (nY:ops.toList=o::post) (aD:o.op=.call ⟨.builtin .recover, #[],ts⟩) (aP:o.guard=none) (CY:(post.all λo=>Oq o.op&&o.guard.isNone)=true)
  (J:∀c,aK c x<|ZF u)
  (h:gE P ops.toList post (cP o.dst x<|mV 0 args) H (λα H'=>cF P fn.ntmps B (λe _ qE=>(e=.normal\/e=.ret)/\R qE) α H')):tR P g args H u R:=by
 intro c vs hs aF;refine aD1 aA aa λK cs hu=>wpSIn_seq<|wpSIn_region ?_;have hsz:ops.size=post.length+1:=by rw[<-Array.length_toList,nY];rfl
 have ay:ops[0]?=some o:=by rw[<-vm,nY];rfl
 have lH:=fu.1 hd o<|by rw[nY];simp
 have hw:∀ys,Region.wanted o ys=true:=λys=>by unfold Region.wanted;rw[aP]
 have hex:∀(a:Act) (w),(execOp a.eval o).run P w=.ok .recover w:=λa w=>by simp only[execOp,aD,resolve,Sem.run_bind,Sem.run_pure,Result.andThen_ok,invoke];rfl
 have key:∀Z,settle Z=.returning->wpOpsSIn Fence.wide 0 P ops (Exit.thenS (B.wpSIn Fence.wide 0 P (λe a V w=>(e=.normal\/e=.ret)/\∃z,V={K with mode:=z}::cs/\∃O v,
   (∀U,U.mode≠.run->U.defers=a.defers->Steps P (lone U V w) (lone {U with defers:=[]} V O))/\(results fn a.tmps).run P O=.ok v O/\
    ∃c' dG H',Ending.returned v=.returned dG/\settle z=.returning/\c'.w=O/\bm c' H'/\Ext c c'/\R H')) (λe a V w=>(e=.normal\/e=.ret)/\∃z,V={K with mode:=z}::cs/\∃O v,
   (∀U,U.mode≠.run->U.defers=a.defers->Steps P (lone U V w) (lone {U with defers:=[]} V O))/\(results fn a.tmps).run P O=.ok v O/\
    ∃c' dG H',Ending.returned v=.returned dG/\settle z=.returning/\c'.w=O/\bm c' H'/\Ext c c'/\R H')) (List.range' 1 post.length)
   (({tmps:=vs++Array.replicate (fn.ntmps-vs.size) undef,defers:=[]}:Act).put o.dst (ZF u)) ({K with mode:=Z}::cs) c.w:=by
  intro Z aQp;refine aDg hd (c.fG (c.w.heap.size,[])) _ post 1 _ H (c.fG (c.w.heap.size,[])) _ (λi=>by rw[<-vm,nY,Nat.add_comm];rfl) (λo aD=>by simpa using fu.1 CY o aD)
   (hs.fG _) (Ext.refl _) ((Ut af aF).put lH (J _)) h λct H' c' cQ g1 g2 g3 g4=>?_
  refine wpSIn_of_wpIn rfl<|wpIn_mono (g4 none c' cQ (.inl rfl) g1 g3) λe K2 aDu ⟨o7,aDC,qE,ax,aq,aU,bf,he,eY⟩=>⟨he,Z,rfl,?_⟩
  subst ax;obtain⟨kI,iN,AQ,iB,bR⟩:=bf.defers;have jL:o7.base=(c.w.heap.size,[]):=aU.base.trans g2.base;rw[jL,cE]at AQ;obtain⟨iw,cw,S,dx,mH⟩:=UK (hs.fG (c.w.heap.size,[])) ({K with mode:=Z}::cs) iN o7 aq (g2.trans aU) iB λD h=>by obtain⟨aL,aR,bC⟩:=bR D h;exact⟨by rw[jL]at aL;exact aL,aR,bC⟩
  obtain⟨v,aS, -⟩:=Ty cw (λt=>(bf.rep t).n9 dx)<|by rw[Sk];trivial
  exact⟨iw.w,v,λU hm RK=>mH U hm<|RK.trans AQ,aS,iw.fG c.base,v,qE,rfl,aQp,rfl,cw.fG _,⟨S.n,S.size,S.st,S.ba,S.bo,S.os,S.tape,S.output,rfl⟩,eY⟩
 rw[KQ,hsz,BH];simp only[wpOpsSIn,ay,hw,dW,hex];refine⟨λ_ _=>trivial,?_⟩;cases u with
 |none=>
  have:recoverD (K::cs)=none:=by simp only[recoverD,hu,BW]
  rw[this];have ao:({K with mode:=.returning})=K:=by cases K;simp only[BW]at hu;subst hu;rfl
  have:=key .returning rfl;rwa[ao]at this
 |some v=>
  have:recoverD (K::cs)=some (v,{K with mode:=.panicking [{v:=v,recovered:=true}]}::cs):=by simp only[recoverD,hu,BW]
  rw[this];exact key _ rfl
def Ik(P:Program)(g:FuncId)(cs:List I)(rs:List ResultVar)(R:I->ab->Prop):c3
 |.normal,α,H=>tR P g cs H none λH'=>tj P α H' rs/\R (tE (rs.map λr=>(oX P α H' r).v)) H'
 |.ret,α,H=>tR P g cs H none λH'=>tj P α H' rs/\R (tE (rs.map λr=>(oX P α H' r).v)) H'
 |.panic ch,α,H=>∃v,ch=[{v:=v,recovered:=false}]/\tR P g cs H (some v) (λH'=>tj P α H' rs/\R (tE<|rs.map λr=>(oX P α H' r).v) H')
 |_,_,_=>False
section
variable (g:FuncId) (cs:List I) (rs:List ResultVar) (R:I->ab->Prop) (α:a8) (H:ab)
@[go_sem] theorem aWe:Ik P g cs rs R .ret α H=tR P g cs H none (λH'=>tj P α H' rs/\R (tE<|rs.map λr=>(oX P α H' r).v) H'):=rfl
@[go_sem] theorem aU1(v:Value):Ik P g cs rs R (.panic [{v:=v,recovered:=false}]) α H=tR P g cs H (some v) (λH'=>tj P α H' rs/\R (tE<|rs.map λr=>(oX P α H' r).v) H'):=by simp[Ik]
end
theorem aD2{A B:Code}{O S:Oper}{t:Tmp}{U:Array Operand}{R:I->ab->Prop}(aA:P.funcs[f]?=some fn)
  (aa:fn.body=some (.seq A<|.seq (.region id #[O,S] false) B)) (af:args.length<=fn.ntmps) (h1:O.op=.makeFunc (.func g) #[] U) (rY:O.dst=some t) (ag:t<fn.ntmps) (FE:O.guard=none)
  (h2:S.op=.defer ⟨.value<|.tmp t, #[],ts⟩) (ie:S.dst=none) (FF:S.guard=none) (bq:jr P g=true)
  (h:cF P fn.ntmps A (λe α H1=>e=.normal/\cF P fn.ntmps B (Ik P g (U.toList.map<|bn α) fn.results.toList R) (cP (some t) (.func (.func g) [] (U.toList.map (bn α))) α) H1) (mV 0 args) H):cV P f args H R:=by
 intro c vs hs aF;refine callsIn_wide.1<|callsIn_of_wp_marks (n:=0) aA aa trivial ?_;refine wpIn_seq<|wpIn_mono (h none (c.fG (c.w.heap.size,[])) _ (.inl rfl) (hs.fG _) (Ut af aF)) λe J w' ⟨c1,α,H1,ax,aq,aU,bf,he,cf⟩=>?_;subst he;subst ax;refine wpIn_seq<|wpIn_region ?_;have aw:List.range (#[O,S]).size=[0,1]:=rfl;have l4:(execOp J.eval O).run P c1.w=.ok (.value<|.func (.func g) #[] (U.map J.eval)) c1.w:=by simp[execOp,h1,Instr.makeFunc,Sem.run_pure]
 have hsz:t<J.tmps.size:=by rw[bf.size];exact ag
 have oO:(execOp (J.put (some t)<|.func (.func g) #[] (U.map J.eval)).eval S).run P c1.w=.ok (.defer {target:=.fn (.func g)<|U.map J.eval,args:= #[]}) c1.w:=by simp only[execOp,h2,resolve,Sem.run_bind,Sem.run_pure,Act.eval,Act.put];simp[hsz,Deferred.ofValue]
 have hw:∀ys o,o.guard=none->Region.wanted o ys=true:=λys o aP=>by unfold Region.wanted;rw[aP]
 rw[aw];simp only[wpOpsIn,List.getElem?_toArray,List.getElem?_cons_zero,vi,hw _ _ FE,hw _ _ FF,dW,Oper.wpIn];refine⟨λ_ _=>trivial,?_⟩;rw[show O.semAt Fence.wide.round J.eval=execOp J.eval O from rfl,l4]
 simp only[Oper.uponIn,rY];refine⟨λ_ _=>trivial,?_⟩;rw[show S.semAt Fence.wide.round (J.put (some t)<|.func (.func g) #[] (U.map J.eval)).eval=execOp (J.put (some t)<|.func (.func g) #[] (U.map J.eval)).eval S from rfl,oO]
 simp only[ie];have n0:=Bd (xs:=U) λx _=>HS bf x;obtain⟨K,xx⟩:∃d:Deferred,d={target:=.fn (.func g)<|U.map J.eval,args:= #[]}:=⟨_,rfl⟩;have m:=bf.put (dst:=some t) (x:=.func (.func g) [] (U.toList.map (bn α))) (v:=.func (.func g) #[] (U.map J.eval)) (by simpa[It,Nat.blt_eq]using ag)<|.func _ _ _ _ _ rfl n0.1 hW n0.2
 have MH:iM (c1.fG (c1.w.heap.size,K::J.defers)) fn.ntmps (cP (some t) (.func (.func g) [] (U.toList.map (bn α))) α) {J.put (some t) (.func (.func g) #[] (U.map J.eval))with defers:=K::J.defers}:=
  ⟨m.size,⟨bh _,[],rfl,hW,hW⟩,λt=>(m.rep t).fG _⟩
 rw[<-xx];show Code.wpIn _ _ _ B _ {J.put (some t) (.func (.func g) #[] (U.map J.eval))with defers:=K::J.defers} _
 refine wpIn_mono (cf none (c1.fG (c1.w.heap.size,K::J.defers)) _ (.inl rfl) (aq.fG _) MH) λe K2 aDu ⟨iw,β,D6,aL,aR,Z,cD,ej⟩=>?_;subst aL;have key:∀(u),tR P g (U.toList.map<|bn α) D6 u (λH'=>tj P β H' fn.results.toList/\R (tE<|fn.results.toList.map λr=>(oX P β H' r).v) H')->
   LeavesInM Fence.wide 0 P fn K2.tmps (λe w'=>∃c' x v H',e=.returned v/\c'.w=w'/\bm c' H'/\Ext c c'/\aK c' x v/\R x H') K2.defers (BW u) iw.w:=by
  intro u aPa;obtain⟨kI,iN,AQ,iB,bR⟩:=cD.defers;obtain⟨_,aDH,s9,s8,eF⟩:=bf.defers;have jL:iw.base=(c1.w.heap.size,K::J.defers):=Z.base;have z:=aU.base;have SJ:Ext (c.fG (c1.w.heap.size,K::J.defers)) iw:=Ext.trans (b:=c1.fG (c1.w.heap.size,K::J.defers)) ⟨aU.n,aU.size,aU.st,aU.ba,aU.bo,aU.os,aU.tape,aU.output,rfl⟩ Z;rw[AQ,jL];have aT:BW u≠.run:=by cases u<;>simp[BW]
  refine Jz aT (K::J.defers) (hs.fG (c1.w.heap.size,K::J.defers)) iN iw aR SJ iB (λD h=>?_) λnL g1 g2 g3 g4=>?_
  ·obtain⟨cw,cL,dx⟩:=bR D h;rw[jL]at cw;exact⟨e1 aU.size cw,cL,dx⟩
  ·refine⟨aT,.inr ⟨by simp[Fence.wide],.func g,U.map J.eval,g,U.map J.eval,by rw[xx],by rw[xx];simp[invoke,go_sem];simpa using Fp bq _ _,λ_ _=>trivial,?_⟩⟩
   refine(aPa nL _ g1 ⟨n0.1,λi x v a b=>(((n0.2 i x v a b).fG _).mono Z).n9 g3⟩).mono λe lT w' ⟨ui,v,aDI,k1,k2,k3,aSi,sy,k4,gQ⟩=>?_;subst k1;subst k3;simp only;rw[k2,s9,z];refine Jz hW [] (hs.fG (c1.w.heap.size,K::J.defers)) aDH ui aSi (g2.trans sy) s8 (λE h=>?_) λAs aS V a6 _=>?_
   ·obtain⟨cw,cL,dx⟩:=eF E h;rw[z]at cw;have av:=(qA.1 dx).1;have yW:=g3.st E (Z.st E cL).1;refine⟨cw,(sy.st E yW).1,(sy.st E yW).2.trans<|(g4 E λq=>?_).trans ((Z.st E cL).2.trans dx)⟩;have:=(bR E q).1;rw[jL]at this;simp only at this;omega
   ·obtain⟨v,ln,ni⟩:=Ty aS (λt=>(((cD.rep t).n9 g3).mono sy).n9 a6) k4;exact⟨v,ln,As.fG c.base,_,v,aDI,rfl,rfl,aS.fG _,⟨V.n,V.size,V.st,V.ba,V.bo,V.os,V.tape,V.output,rfl⟩,ni.fG _,gQ⟩
 cases e<;>simp only[Ik]at ej;case normal=>exact key none ej
 case ret=>exact key none ej
 case panic ch=>obtain⟨v,rfl,q⟩:=ej;exact key (some v) q
theorem aEz{R:I->ab->Prop}
  (h:cV P f args H (λv H'=>∃H1 L y,H'=H1++L/\H1.length=H.length/\(∀(i:Nat) (b:bD),H1[i]?=some b->H[i]?=some b\/ed H.length b)/\cJ H.length H' v y/\R y H1)):cV P f args H R:=by
 intro c vs hs J;refine(h c vs hs J).mono λe w' ⟨c',x,v,H',ax,U,aU,bf,K,H1,L,y,O,S,V,Z,z⟩=>?_;subst O;refine⟨c'.drop c.n,y,v,H1,ax,U,bm.Fk (by rw[hs.n,S]) aU λi b hi=>?_,bf.drop,?_,z⟩
 ·rcases V i b hi with h|h
  ·exact hs.Fg h
  ·rw[hs.n];exact h
 ·have:=Z.sound aU K;rwa[<-hs.n]at this
theorem aHy(h:cV P f args H (λv H'=>∃L y,H'=H++L/\cJ H.length H' v y/\y=x)):aO P f args H x:=
 aEz (h.mono λ_ _ ⟨L,y,e,J,U⟩=>⟨H,L,y,e,rfl,λ_ _ K=>.inl K,J,U,rfl⟩)
def Es(P:Program)(rs:List ResultVar)(X:Value->ab->Prop)(R:I->ab->Prop):c3
 |.panic ch,_,H=>∃v,ch=[{v:=v,recovered:=false}]/\X v H
 |.normal,α,H=>qp P rs R .normal α H
 |.ret,α,H=>qp P rs R .ret α H
 |_,_,_=>False
section
variable (rs:List ResultVar) (X:Value->ab->Prop) (R:I->ab->Prop) (α:a8) (H:ab)
@[go_sem] theorem aVX:Es P rs X R .ret α H=qp P rs R .ret α H:=rfl
@[go_sem] theorem aUc(v:Value):Es P rs X R (.panic [{v:=v,recovered:=false}]) α H=X v H:=by simp[Es]
end
theorem aI8{R:I->ab->Prop}(J:P.funcs[f]?=some fn)
  (h:cF P fn.ntmps code (Es P fn.results.toList X R) (mV 0 args) H) (U:fn.body=some code:=by rfl) (af:args.length<=fn.ntmps:=by exact ve rfl):
  ((∀v H',¬R v H')->vo P f args H X)/\((∀v H',¬X v H')->cV P f args H R):=by
 refine⟨λK=>T1 J U af<|Bv h λe O H' q=>?_,λS=>F9 J U af<|Bv h λe O H' q=>?_⟩
 ·cases e<;>simp[Es]at q<;>first|exact q|exact(K _ _ q.2).elim|exact q.elim
 ·cases e<;>simp[Es]at q<;>first|exact q|exact q.elim|(obtain⟨v, -,q⟩:=q;exact(S _ _ q).elim)
section
open Go.RowKit
variable {P:Program}
theorem bm.as{c:Ctx}(U:bm c H){B':bD}(hi:H[i]?=some B)(hl:B.live)(V:fR c i B'):bm c (an H i B'):=by
 have get:∀{j:Nat} {b:bD},(an H i B')[j]?=some b->b.live->∃x,H[j]?=some x/\x.live:=fun{j b} h K=>by
  unfold an at h;by_cases e:j=i
  ·subst e;exact⟨B,hi,hl⟩
  ·rw[gS gf]at h;exact⟨b,h,K⟩
 refine⟨U.j0,by simp[an,U.n],U.lt,λj k b cR J hk K Z I z he=>?_,λk hk=>⟨(U.st k hk).1,λj b J K hd=>?_⟩,λj b J=>?_⟩
 ·obtain⟨x,O,S⟩:=get J K;obtain⟨y,ln,ni⟩:=get hk Z;exact U.inj j k x y O ln S ni I z he
 ·obtain⟨x,O,S⟩:=get J K;exact(U.st k hk).2 j x O S hd
 ·by_cases h:j=i
  ·subst h;simp[an,((cu.1 hi).1)]at J;subst J;exact V
  ·simp[an]at J;rw[gS gf]at J;exact U.rep j b J
theorem fR.un{c:Ctx}{k:Nat}(h:fR c i (.dc e k cs)):fR c i (.cells k cs):=by
 cases h with
 |dc _ _ _ vs J hd U hl O K=>exact .cells k cs vs e (0,0) J hd U hl (.inr<|bh _) K
 |pE _ _ J hd=>exact .void k J hd
theorem fR.aR2{c:Ctx}{k:Nat}(U:c.ba i=k)(hk:k≠0)(h:fR c i (.dc e k cs)):fR (c.iZ i) i (.dc e (k+1) cs):=by
 cases h with
 |dc _ _ _ vs K J a6 bb dm ey=>exact .dc e _ _ vs (by simp[Ctx.iZ,U]) J a6 bb ⟨gf,dm.2⟩ λj y u h1 h2=>(ey j y u h1 h2).mono (Ext.iZ c _)
 |pE _ _ K J=>exact .pE e _ (by simp[Ctx.iZ,U]) J
theorem fR.aDh{c:Ctx}{k:Nat}(h:fR c i (.dc e k cs))(hd:c.c0 i=false):∃vs,c.w.heap[c.bo i]?=some (.cells vs e (0,0))/\cs.length<=vs.size/\((k=0->vs.size=cs.length)/\(cs.head?=some .dX->vs[1]?=some (.slice none 0 0)))/\∀(j:Nat) (x) (v),cs[j]?=some x->vs[j]?=some v->aK c x v:=by
 cases h with
 |dc _ _ _ vs U J a6 bb dm ey=>exact⟨vs,a6,bb,dm,ey⟩
 |pE _ _ U J=>rw[hd]at J;cases J
theorem fR.TN{c:Ctx}{k:Nat}(h:fR c i (.dc e k cs)):c.ba i=k:=by cases h<;>assumption
theorem Z8{p:Prop}(t)(h:(ck t).head?=some .dX):p:=by cases t<;>cases h
theorem aL3{c:Ctx}{ts tx:TypeId}{j k:Nat}{t s:List UInt8}{vb:Value}(K:bm c H)(O:H[j]?=some (.dc e k<|ck t))(hk:k≠0)(aF:aK c (.osl 1 j k 0 t.length t.length) vb)(hu:P.underlying ts=some (.slice e))(bq:ow P e=true)(km:xm P tx=true)
  (h1:P.cellsOf e=1) (h2:P.bytesOf e=1) (hl:t.length+s.length<=140737488355328):
  mq P (Builtin.append_ #[ts,tx] ty #[vb,.string ⟨s.toArray⟩]) c (.osl 1 j (k+1) 0 (t.length+s.length)<|t.length+s.length) (an H j<|.dc e (k+1) (ck (t++s))):=by
 have J:∀c,aK c (.str s) (.string ⟨s.toArray⟩):=λc=>.str s gf;have S:=(cu.1 O).1;have hi:j<c.n:=by rw[K.n];exact S
 have n0:=K.rep j _ O;have V:=K.as O trivial n0.un;have MT:az (an H j<|.cells k (ck t)) j=.cells k (ck t):=by simp[az,an,S]
 have U:=V.qw MT;have r6:∀H,sS (.str s) (P.cellsOf e) H:=λ_=>h1;obtain⟨aL,aR,us,bC,cD,ej⟩:=sP (P:=P) K (J c)<|r6 H;have pt:∀H,fj (.str s) H=ck s:=λ_=>rfl;have mB:fg (.str s)=s.length:=rfl;rw[pt]at aR cD ej;rw[mB]at aL aR bC;have pW:=qO t;have ij:=qO s;have e9:(t.length+s.length) * P.bytesOf e<=140737488355328:=by rw[h2];omega
 have kI:P.bytesOf e≠0:=gf;obtain⟨base,cap,rfl,g2,II,g3,g4⟩:=aF.l9 U;by_cases pr:t.length+s.length<=cap
 · -- it fits
   by_cases lM:s=[]
   ·subst lM;have pv:=tJ<|by rw[cD];rfl
    have gX:=Bl (ty:=ty) (base:=base) hu bq km aL pr bC (λa _=>by rw[pv];simp[storeCells]) λ_=>rfl
    obtain⟨Z,I⟩:=K.Tq (B':=.dc e (k+1) (ck (t++[]))) O hk U<|by rw[cE];exact n0.aR2 U hk
    refine⟨c.iZ j,_,gX,I,Z,?_⟩;exact .osl _ _ _ _ _ _ _ hi (by simp[Ctx.iZ,U]) rfl gf (λ_ hd=>by obtain⟨ax,aq⟩:=g3 hd;exact⟨oq ax,oq ax,base,by simp[ax,aq]⟩)
     (λ_ hd=>by obtain⟨cw,m,z,dx⟩:=g4 hd;exact⟨base,cap,m,rfl,bh _,oq pr,cw,by simpa[Ctx.iZ]using z,dx⟩)
   ·have uE:=nH.2 lM;cases hd:c.c0 j with
    |true=>have:=g3 hd;omega
    |false=>
     obtain⟨cw,m,z,dx⟩:=g4 hd;obtain⟨mL,eC,pg, -,aw⟩:=n0.aDh hd;have hm:=by simp[bsize,eC]at z;exact z
     have jL:=cw.resolve_left gf;subst jL;have CT:∀u∈us.toList,u.oneCell'=true:=by
      intro u kn;obtain⟨k,ev,ew⟩:=wZ kn;simp only[Array.length_toList]at ev;have aJ:(ck s)[k]?=some ((ck s)[k]'(by omega)):=dn gf
      exact(ej k _ u aJ (by rw[<-ew];simp)).one<|fu.1 (Y5 s) _ (fQ _)
     have Sy:=Tu (P:=P) (w:=c.w) (b:=c.bo j) (off:=t.length * P.cellsOf e) us.toList eC (by simp;rw[cD,h1];omega) (.inr<|bh _) CT
     have gX:=Bl (P:=P) (ty:=ty) (base:=some ⟨c.bo j,0,none⟩) (len:=t.length) (cap:=cap) hu bq km aL pr bC (λa aG=>by cases aG;rw[pL,lr];exact Sy) λh=>p2 h
     obtain⟨y8,he⟩:=qA.1 eC;have F0:(lv mL (t.length * P.cellsOf e) us.toList).size=mL.size:=Ab _ _ _;have SN:=K.Ff O trivial (by rw[U];exact hk) (World.putCells c.w (c.bo j) (lv mL (t.length * P.cellsOf e) us.toList) e (0,0)) (c.bo j) (by simp[World.putCells]) (.inr ⟨rfl,hd⟩) (λb _ aT=>y1 aT) rfl rfl rfl
     obtain⟨Z,I⟩:=K.bump (B':=.dc e (k+1)<|ck (t++s)) O trivial (by rw[U];exact hk) (World.putCells c.w (c.bo j) (lv mL (t.length * P.cellsOf e) us.toList) e (0,0)) (c.bo j) (by simp[World.putCells]) (by simpa[World.putCells]using y8) (.inr ⟨rfl,hd⟩)
      (λb _ aT=>y1 aT) rfl rfl rfl (by
       refine .dc e _ _ (lv mL (t.length * P.cellsOf e) us.toList) (by simp[Ctx.bump,U]) (by simp[Ctx.bump]) (by simp only[Ctx.bump,dW];exact vS y8) (by rw[F0,qO,bw];omega) ⟨gf,Z8 _⟩ λj y u i1 i2=>?_
       refine aK.mono (c:=c) SN ?_;rw[HT _ _ _ (ck s).length (oq cD) (by rw[h1];omega)]at i2
       rw[wE]at i1;by_cases O:j<(ck t).length
       ·rw[jc O]at i1;rw[ar (by rw[h1];omega)]at i2
        exact aw _ _ _ i1 i2
       ·rw[pH gf]at i1;have gP:=(cu.1 i1).1;rw[aC (by rw[h1];omega)]at i2
        exact ej _ _ _ i1<|by rw[h1,mi,<-pW]at i2;simpa using i2)
     refine⟨c.bump j _ _,_,gX,I,Z,?_⟩;exact .osl _ _ _ _ _ _ _ hi (by simp[Ctx.bump,U]) rfl gf (λ_ gN=>by simp[Ctx.bump]at gN) λ_ _=>⟨_,cap,m,rfl,bh _,pr,.inr (by simp[Ctx.bump]),by rw[<-hm,<-F0];exact Mk (by simp only[Ctx.bump,dW];exact vS y8),dx⟩
 · -- a new array
   have Su:sS (.osl 1 j k 0 t.length t.length) (P.cellsOf e) (an H j<|.cells k (ck t)):=by
    refine⟨h1.symm,by simp[mQ,MT],?_⟩
    simp only[MT];omega
   obtain⟨-,z,x4,dx,mH,zo⟩:=sP (P:=P) V.draw (aF.mono<|Ext.draw c) Su;obtain⟨-, -,ye,a6,bb,dm⟩:=sP (P:=P) K.draw (J c.draw)<|r6 H;obtain⟨kQ,rest,k1,k2,k3⟩:=Tt (P:=P) (ty:=ty) (w:=c.w) hu bq km aL rfl gf e9 kI dx a6;have hold:fj (.osl 1 j k 0 t.length t.length) (an H j<|.cells k (ck t))=ck t:=by simp only[fj,MT,List.drop_zero,mi];rw[<-pW,fe]
   rw[hold]at mH zo;rw[pt]at bb dm;have SN:=K.draw.Ff O trivial (by simpa[Ctx.draw,U]using hk) (World.alloc {c.w with drawn:=c.w.drawn+1} (.cells (x4++ye++rest) e)) c.w.heap.size (by simp[Ctx.draw]) (.inl<|by simp[Ctx.draw]) (λb S _=>ud<|by simpa[Ctx.draw]using S) rfl rfl rfl
   obtain⟨Z,I⟩:=K.draw.bump (B':=.dc e (k+1)<|ck (t++s)) O trivial (by simpa[Ctx.draw,U]using hk) (World.alloc {c.w with drawn:=c.w.drawn+1} (.cells (x4++ye++rest) e)) c.w.heap.size (by simp[Ctx.draw]) hW (.inl<|by simp[Ctx.draw])
    (λb S _=>ud<|by simpa[Ctx.draw]using S) rfl rfl rfl (by
     rw[wE];refine .dc e _ _ _ (by simp[Ctx.bump,Ctx.draw,U]) (by simp[Ctx.bump]) (by simp only[Ctx.bump,dW];exact mv _ _) ?_ ⟨gf,λh=>Z8 _<|by rw[wE];exact h⟩ (λj y u hi hu=>?_)
     ·simp only[bw,Array.size_append];omega
     ·exact(Tr mH zo bb dm j y u hi hu).mono SN)
   refine⟨c.draw.bump j _ _,_,k3,I,(Ext.draw c).trans Z,?_⟩;refine .osl _ _ _ _ _ _ _ hi (by simp[Ctx.bump,Ctx.draw,U]) rfl gf (λ_ hd=>by simp[Ctx.bump]at hd) λ_ _=>?_
   refine⟨_,kQ,(x4++ye++rest).size,rfl,bh _,k1,.inr (by simp[Ctx.bump]),?_,?_⟩
   ·exact Mk<|by simp only[Ctx.bump,dW];exact mv _ _
   ·simp only[Array.size_append];rw[mH,bb,k2,h1];omega
theorem bm.two{c:Ctx}{p:I}(U:bm c H)(hi:H[i]?=some (.dc T 0 [p,x])):
  c.ba i=0/\c.c0 i=false/\∃J bv,c.w.heap[c.bo i]?=some (.cells #[J,bv] T (0,0))/\aK c p J/\aK c x bv/\(p=.dX->bv=.slice none 0 0):=by
 cases U.rep i _ hi with
 |dc _ _ _ vs K O a6 bb dm ey=>
  obtain⟨l⟩:=vs
  match l,(dm.1 rfl)with
  |[a,b],_=>exact⟨K,O,a,b,a6,ey 0 _ _ rfl rfl,ey 1 _ _ rfl rfl,λh=>j9⟩
theorem bm.aDl{c:Ctx}{p S x':I}{U bv:Value}(V:bm c H)(hi:H[i]?=some (.dc T 0 [p,x]))(h1:aK c S U)(h2:aK c x' bv)(af:S=.dX->bv=.slice none 0 0):
  Ext c {c with w:=World.putCells c.w (c.bo i) #[U,bv] T (0,0)}/\bm {c with w:=World.putCells c.w (c.bo i) #[U,bv] T (0,0)} (an H i (.dc T 0 [S,x'])):=by
 obtain⟨ax,K,u,v,Z, -⟩:=V.two hi;obtain⟨O,he⟩:=qA.1 Z;have J:=(V.update hi trivial K (World.putCells c.w (c.bo i) #[U,bv] T (0,0)) (by simp[World.putCells]) (λb z=>y1 z) (by simp[bsize,vS O,Z]) rfl rfl rfl (B':=.dc T 0 [.top,.top])
  (.dc T 0 _ #[U,bv] ax K (vS O) hW ⟨hW,hW⟩ (λj y w q r=>by match j,q with|0,q=>cases q;exact .top _|1,q=>cases q;exact .top _))).1
 exact V.update hi trivial K (World.putCells c.w (c.bo i) #[U,bv] T (0,0)) (by simp[World.putCells]) (λb z=>y1 z) (by simp[bsize,vS O,Z]) rfl rfl rfl
  (.dc T 0 _ #[U,bv] ax K (vS O) hW ⟨hW,λh=>nP⟩ (λj y w q r=>by match j,q,r with|0,q,r=>cases q;cases r;exact h1.mono J|1,q,r=>cases q;cases r;exact h2.mono J))
theorem GP{c:Ctx}(h:aK c (.ref i 0 0) v)(J:c.ba i=0):v=.pointer (some ⟨c.bo i,0,none⟩):=by
 cases h with
 |ref _ _ _ _ _ _ _ h=>exact(h J).2
theorem aR7{c:Ctx}(hi:i<c.n)(J:c.ba i=0)(hd:c.c0 i=false):aK c (.ref i 0 0) (.pointer<|some ⟨c.bo i,0,none⟩):=.ref _ _ _ _ hi (cb _) rfl λ_=>⟨hd,rfl⟩
theorem aSQ{rest:List Oper}{w':World}{Q:Exit->Act->World->Prop}(O:o.guard=none)(sl x)(t u)(S:o.op=.call {callee:=.builtin .append,args:= #[sl,x],argTypes:= #[t,u]}){y U:Value}
  (hs:a.eval sl=v) (J:a.eval x=y) (V:(Builtin.append_ #[t,u] o.type #[v,y]).run P w=.ok U w') (h:wpList P ops Q rest (a.put o.dst U) w'):wpList P ops Q (o::rest) a w:=by
 refine wpList_plain O λK bL=>?_;unfold Oper.wp execOp;simp[S,resolve,invoke,builtin,hs,J,V];exact bL _ _ h
theorem RM{g b:Nat}(h:b≠g):(w.freeze ⟨g,0,none⟩ n).heap[b]?=w.heap[b]?:=by
 unfold World.freeze;split
 ·rfl
 ·simp[Array.getElem?_modify,ka h]
theorem bm.freeze{c:Ctx}{H:ab}(U:bm c H)(g n)(h1:¬c.hb g)(h2:∀i,i<c.n->c.c0 i=false->c.bo i≠g):
  Ext c {c with w:=c.w.freeze ⟨g,0,none⟩ n}/\bm {c with w:=c.w.freeze ⟨g,0,none⟩ n} H:=by
 have hsz:(c.w.freeze ⟨g,0,none⟩ n).heap.size=c.w.heap.size:=by unfold World.freeze;split<;>simp
 have J:Ext c {c with w:=c.w.freeze ⟨g,0,none⟩ n}:=by
  refine⟨bh _,j9,λb O=>⟨O,RM λe=>h1<|e▸O⟩,λ_ _=>bh _,λj K _=>⟨rfl,rfl,λhd=>?_⟩,?_,?_,?_,rfl⟩
  ·simp only[bsize];rw[RM (h2 j K hd)]
  all_goals(simp[World.freeze];split<;>first|rfl|exact⟨rfl,bh _⟩)
 refine⟨J,⟨U.j0.mono J,U.n,λj K hd=>by simpa[hsz]using U.lt j K hd,U.inj,λk hk=>⟨by simpa[hsz]using(U.st k hk).1,(U.st k hk).2⟩,λj b K=>?_⟩⟩
 have S:j<c.n:=by rw[U.n];exact(cu.1 K).1
 exact(U.rep j b K).mono J S (λ_ _ h=>h) rfl λhd=>RM (h2 j S hd)
theorem fR.alive{c:Ctx}(h:fR c i B)(hd:c.c0 i=false):B.live:=by
 cases h with
 |gone h=>rw[hd]at h;cases h
 |_=>trivial
theorem bm.frozen{c:Ctx}{j:Nat}(U:bm c H)(O:H[j]?=some B)(hl:B.live)(hk:c.ba j≠0)(hd:c.c0 j=false)(n):
  ∃c',c'.w=c.w.freeze ⟨c.bo j,0,none⟩ n/\Ext c c'/\bm c' (an H j .gone):=by
 have hs:=U.aDf False O hl hk;obtain⟨J,V⟩:=hs.freeze (c.bo j) n (λh=>by
  rcases h with h|h
  ·exact(U.st _ h).2 j B O hl hd rfl
  ·exact h.1) (λi hi K e=>by
  simp only[Ctx.stop]at hi K e;by_cases h:i=j
  ·simp[h]at K
  ·rw[ar h]at K;have S:=dn<|by rw[<-U.n];exact hi
   exact h<|U.inj i j _ B S O ((U.rep i _ S).alive K) hl K hd e)
 exact⟨_,rfl,(Ext.stop c j False).trans J,V⟩
theorem aNd{c:Ctx}(K:bm c H)(I:(P.info? T).bind (·.zero)=some (.agg #[.pointer none,.slice none 0 0])):
  mq P (Instr.alloc T true<|.tuple #[]) c (.ref H.length 0 0) (H++[.dc T 0 [.dX,.osl 1 (H.length+1) 1 0 0 0],.dc Y 1 []]):=by
 obtain⟨i,hi,O⟩:=kv.1 I;have af:=K.n;have S:=K.push (.cells #[.pointer none,.slice none 0 0] T) (B:=.dc T 0 [.dX,.top]) 0 (by
  refine .dc T _ _ #[.pointer none,.slice none 0 0] (by simp[Ctx.push]) (by simp[Ctx.push]) (by simp only[Ctx.push,dW];exact mv _ _) hW ⟨λ_=>rfl,λ_=>rfl⟩ (λj y u h1 h2=>?_)
  match j,h1,h2 with
  |0,h1,h2=>cases h1;cases h2;exact .dX
  |1,h1,h2=>cases h1;exact .top _)
 have V:=Ext.push K<|.cells #[.pointer none,.slice none 0 0] T;generalize U:c.push (.cells #[.pointer none,.slice none 0 0] T)=c1 at S V;have J:c1.n=H.length+1:=by rw[S.n];simp
 have z:=S.void;have FT:=z.as (i:=H.length+1) (B:=.cells 1 []) hW trivial<|.pE Y 1 (by simp[Ctx.void,J]) (by simp[Ctx.void,J])
 have Z:=FT.as (i:=H.length) (B:=.dc T 0 [.dX,.top]) (B':=.dc T 0 [.dX,.osl 1 (H.length+1) 1 0 0 0]) (by simp[an]) trivial (by
  refine .dc T _ _ #[.pointer none,.slice none 0 0] (by simp[Ctx.void,<-U,Ctx.push,af]) (by simp[Ctx.void,<-U,Ctx.push,af]) (by simp only[Ctx.void,<-U,Ctx.push,af,dW];exact mv _ _) hW ⟨λ_=>rfl,λ_=>rfl⟩ (λj y u h1 h2=>?_)
  match j,h1,h2 with
  |0,h1,h2=>cases h1;cases h2;exact .dX
  |1,h1,h2=>cases h1;cases h2;exact .osl _ _ _ _ _ _ _ (by simp[Ctx.void,J]) (by simp[Ctx.void,J]) rfl hW (λ_ _=>⟨rfl,rfl,none,rfl⟩) λ_ hd=>by simp[Ctx.void,J]at hd)
 have hH:an (an (H++[.dc T 0 [.dX,.top]]++[.cells 1 []]) (H.length+1)<|.dc Y 1 []) H.length (.dc T 0 [.dX,.osl 1 (H.length+1) 1 0 0 0])=H++[.dc T 0 [.dX,.osl 1 (H.length+1) 1 0 0 0],.dc Y 1 []]:=by simp[an]
 rw[hH]at Z;refine⟨c1.void,.pointer<|some ⟨c.w.heap.size,0,none⟩,?_,Z,V.trans<|Ext.void c1,?_⟩
 ·subst U;simp[Instr.alloc,zeroValue,typeInfo,hi,O,newVar,newRow,Ctx.push,Ctx.void];rfl
 ·exact .ref _ _ _ _ (by simp[Ctx.void,J];omega) (cb _) rfl λ_=>by simp[Ctx.void,<-U,Ctx.push,af]
theorem Zp{d:Nat}{pos:String}{Q:c3}(U:(P.info? T).bind (·.zero)=some (.agg #[.pointer none,.slice none 0 0]))(hd:It N (some d)=true)
  (h:Q .normal ((d,.ref H.length 0 0)::α) (H++[.dc T 0 [.dX,.osl 1 (H.length+1) 1 0 0 0],.dc Y 1 []])):cF P N (.region id #[⟨some d,.alloc T,ty,pos, #[],none⟩] false) Q α H:=by
 intro r c a _ hs J;refine wpIn_region ?_;have K:ea P N #[⟨some d,.alloc T,ty,pos, #[],none⟩] H ⟨some d,.alloc T,ty,pos, #[],none⟩ α (λx H'=>x=.ref H.length 0 0/\H'=H++[.dc T 0 [.dX,.osl 1 (H.length+1) 1 0 0 0],.dc Y 1 []]):=
  ea.oa rfl (aNH (λr _=>by cases r<;>rfl) (λ_=>Instr.alloc T true<|.tuple #[]) (λ_=>rfl) λc a O _=>aNd O U)
 have:=K r c a (wpOpsIn (wf r) 0 P #[⟨some d,.alloc T,ty,pos, #[],none⟩] (vq N c Q) []) (vq N c Q) hs J.size (λt _=>J.rep t) λc' x v H' h1 h2 h3 ⟨h4,S⟩=>⟨c',_,H',rfl,h1,h2,(J.mono h2).put hd h3,by subst h4;subst S;exact h⟩
 show wpOpsIn (wf r) 0 P _ (vq N c Q) _ a c.w;simpa[KQ,BH,wpOpsIn,Region.wanted]using this
end
section
open Go.RowKit
abbrev oe:TypeId:=267
abbrev u6:TypeId:=5
theorem aNp(b:Nat)(w:World)(ay:w.cell? ⟨b,0,none⟩=some (.pointer<|some ⟨b,0,none⟩)):
  Calls prog 184 #[.pointer (some ⟨b,0,none⟩)] w λe w'=>e=.returned (.tuple #[])/\w'=w:=by
 obtain⟨j,J,_⟩:=gA.1<|show(prog.info? oe).map (·.size)=some 2 by kernel_rfl
 go_enter func184,ntmps184
 go_wp2
 rw[Lib.run_neq_ptr_same w _ (underlying265) J]
 go_wp2
 go_end0
 exact⟨rfl,rfl⟩
theorem aNo(b:Nat)(w:World)(ay:w.cell? ⟨b,0,none⟩=some (.pointer none))(U:w.shape? b=some (oe,2))(O:w.frozen? ⟨b,0,none⟩=false):
  Calls prog 184 #[.pointer (some ⟨b,0,none⟩)] w λe w'=>e=.returned (.tuple #[])/\w'=w.setCell ⟨b,0,none⟩ (.pointer (some ⟨b,0,none⟩)):=by
 obtain⟨j,K,J⟩:=gA.1<|show(prog.info? oe).map (·.size)=some 2 by kernel_rfl
 go_enter func184,ntmps184
 go_wp2
 rw[Lib.run_to_unsafe w ⟨b,0,none⟩ underlying265 underlying373 K (by rw[J];decide) U (Nat.zero_lt_succ 1)]
 simp only[Result.andThen];rw[Oper.upon_value]
 go_wp2
 rw[run_callFunc_extern func215 ma ma ma (e:=Extern.AbiNoEscape.same) ma];rw[Lib.run_noEscape];simp only[Result.andThen];rw[Oper.upon_value]
 go_wp2
 rw[Lib.run_from_unsafe w ⟨b,0,none⟩ underlying373 underlying265 K U ma];simp only[Result.andThen];rw[Oper.upon_value]
 go_wp2
 go_end0
 exact⟨rfl,rfl⟩
theorem aNn{p:I}(hi:H[i]?=some (.dc oe 0 [p,x]))(ad:p=.dX\/p=.ref i 0 0):
  cV prog 184 [.ref i 0 0] H (λv H'=>v=.aN []/\H'=an H i (.dc oe 0 [.ref i 0 0,x])):=by
 intro c vs hs ⟨hsz,K⟩;obtain⟨ax,O,rn,bv,U,h1,h2, -⟩:=hs.two hi;obtain⟨l⟩:=vs
 match l,hsz with
 |[a],_=>
  obtain rfl:=GP (K 0 _ _ rfl rfl) ax;have S:i<c.n:=by rw[hs.n];exact(cu.1 hi).1
  have V:=aR7 S ax O;obtain⟨J,Z⟩:=hs.aDl hi V h2 nofun;refine Calls.mono (R:=λe w'=>e=.returned (.tuple #[])/\w'=World.putCells c.w (c.bo i) #[.pointer (some ⟨c.bo i,0,none⟩),bv] oe (0,0)) ?_ λe w' ⟨z,aR⟩=>⟨_,.aN [],_,_,z,aR.symm,Z,J,.aN _ _ rfl (λi y w q=>by simp at q),rfl,rfl⟩
  rcases ad with rfl|rfl
  ·cases h1;refine(aNo (c.bo i) c.w (by rw[Lib.cell_of_heap U];rfl) (by simp[World.shape?,U]) (Lib.frozen_of_heap U 0)).mono ?_
   rintro e w' ⟨rfl,rfl⟩;exact⟨rfl,TB U _⟩
  ·obtain rfl:=GP h1 ax;refine(aNp (c.bo i) c.w (by rw[Lib.cell_of_heap U];rfl)).mono ?_
   rintro e w' ⟨rfl,rfl⟩;exact⟨rfl,(aCO U).symm⟩
theorem aM5{j k:Nat}{p:I}{t s:List UInt8}(hi:H[i]?=some (.dc oe 0 [p,.osl 1 j (k+1) 0 t.length t.length]))(ad:p=.dX\/p=.ref i 0 0)(U:H[j]?=some (.dc u6 (k+1)<|ck t))(hl:t.length+s.length<=140737488355328):
  cV prog 134 [.ref i 0 0,.str s] H (λv H'=>v=.aN [.int .i64 s.length,.nilIface]/\H'=an (an H j<|.dc u6 (k+2) (ck (t++s))) i (.dc oe 0 [.ref i 0 0,.osl 1 j (k+2) 0 (t.length+s.length)<|t.length+s.length])):=by
 intro c vs hs ⟨hsz,O⟩;have S:j≠i:=λe=>by subst e;rw[hi]at U;cases U
 obtain⟨l⟩:=vs
 match l,hsz with
 |[a,b],_=>
  obtain⟨ax,aq, -⟩:=hs.two hi;obtain rfl:=GP (O 0 _ _ rfl rfl) ax;have kL:=O 1 _ _ rfl rfl;cases kL with
  |str _ ij=>
  have eZ:=aNn hi ad c #[.pointer (some ⟨c.bo i,0,none⟩)] hs ⟨rfl,λq y w h1 h2=>by match q,h1,h2 with|0,h1,h2=>cases h1;cases h2;exact O 0 _ _ rfl rfl⟩
  go_enter func134,ntmps134
  go_wp2_with (go_at_call 184;refine eZ.mono ?_)
  rintro e c5 c1 eQ v1 rfl rfl H1 V l4 AZ rfl rfl;have Z:i<H.length:=(cu.1 hi).1;have iT:(an H i (.dc oe 0 [.ref i 0 0,.osl 1 j (k+1) 0 t.length t.length]))[i]?=some (.dc oe 0 [.ref i 0 0,.osl 1 j (k+1) 0 t.length t.length]):=by simp[an,Z]
  have z:(an H i (.dc oe 0 [.ref i 0 0,.osl 1 j (k+1) 0 t.length t.length]))[j]?=some (.dc u6 (k+1)<|ck t):=by rw[an,gS<|ka S];exact U
  obtain⟨f1,f2,rn,bv,aa,h1,h2, -⟩:=V.two iT;have vO:=(l4.bo i (by rw[hs.n];exact Z) (f1.trans ax.symm)).1
  rw[vO]at aa;have Q3:=Lib.cell_of_heap aa 1;obtain⟨c2,dG,gX,r5,oO,nZ⟩:=aL3 (P:=prog) (ts:=117) (tx:=9) (ty:=117) V z gf h2 underlying117 ma ma ma ma hl;have hX:(an (an H i<|.dc oe 0 [.ref i 0 0,.osl 1 j (k+1) 0 t.length t.length]) j (.dc u6 (k+1+1)<|ck (t++s)))[i]?=some (.dc oe 0 [.ref i 0 0,.osl 1 j (k+1) 0 t.length t.length]):=by rw[an,gS S];exact iT
  obtain⟨g1,g2,aY3,aXR,K,k1,k2, -⟩:=r5.two hX;have J:=(oO.bo i (by rw[V.n];simpa[an]using Z) (g1.trans f1.symm)).1
  rw[J,vO]at K;have aNi:=Lib.cell_of_heap K 1;have aXW:=Lib.frozen_of_heap K 1;simp only[List.getElem?_toArray,vi,List.getElem?_cons_zero]at Q3 aNi;have Jb:(an (an H i<|.dc oe 0 [.ref i 0 0,.osl 1 j (k+1) 0 t.length t.length]) j (.dc u6 (k+1+1)<|ck (t++s)))[j]?=some (.dc u6 (k+1+1)<|ck (t++s)):=by have:=(cu.1 U).1;simp[an,this]
  obtain⟨base,cap,rfl, -⟩:=nZ.l9 (r5.rep j _ Jb).TN
  go_wp2_with (at_builtin;refine aSQ rfl _ _ _ _ rfl rfl rfl gX ?_)
  go_ret2
  obtain⟨F2,FT⟩:=r5.aDl hX k1 nZ nofun;rw[J,vO]at F2 FT;refine⟨_,_,_,_,rfl,(TB (off:=1) K (.slice base (t.length+s.length) cap)).symm,FT,(l4.trans oO).trans F2,.aN [.int .i64 s.length,.nilIface] _ rfl (λq y w h1 h2=>?_),rfl,?_⟩
  ·match q,h1,h2 with
   |0,h1,h2=>cases h1;cases h2;exact .int _ _<|by unfold l6 IntKind.min IntKind.max;simp[IntKind.bits,IntKind.signed];omega
   |1,h1,h2=>cases h1;cases h2;exact .nilIface
  ·show((H.set i _).set j _).set i _=(H.set j _).set i _;rw[List.set_comm _ _ S.symm,List.set_set]
theorem aM6{j k:Nat}{p:I}(hi:H[i]?=some (.dc oe 0 [p,.osl 1 j k 0 n n]))(J:H[j]?=some (.dc e k cs))(af:n<=1000000000000):aO prog 176 [.ref i 0 0] H (.int .i64 n):=by
 intro c vs hs ⟨hsz,U⟩;obtain⟨l⟩:=vs
 match l,hsz with
 |[a],_=>
  obtain⟨f1,f2,S,bv,K,h1,h2, -⟩:=hs.two hi;obtain rfl:=GP (U 0 _ _ rfl rfl) f1;have O:=Lib.cell_of_heap K 1;simp only[List.getElem?_toArray,vi,List.getElem?_cons_zero]at O;obtain⟨base,cap,rfl, -⟩:=h2.l9 (hs.rep j _ J).TN
  go_enter func176,ntmps176
  go_wp2
  go_ret
  exact⟨c,_,_,H,rfl,rfl,hs,Ext.refl c,.int .i64 n (by unfold l6 IntKind.min IntKind.max;simp[IntKind.bits,IntKind.signed];omega),rfl,rfl⟩
theorem aMz(hi:H[i]?=some (.dc oe 0 [.dX,x])):aO prog 135 [.ref i 0 0] H (.str []):=by
 intro c vs hs ⟨hsz,J⟩;obtain⟨l⟩:=vs
 match l,hsz with
 |[a],_=>
  obtain⟨f1,f2,S,bv,U,h1,h2,h3⟩:=hs.two hi;obtain rfl:=GP (J 0 _ _ rfl rfl) f1;obtain rfl:=h3 rfl;have c1:c.w.drew.cell? ⟨c.bo i,1,none⟩=some (.slice none 0 0):=by rw[Lib.cell_of_heap (show c.w.drew.heap[c.bo i]?=_ from U)];rfl
  have K:∀W,(Builtin.unsafeString_ #[332,3] 9 #[.pointer none,.int .i64 0]).run prog W=.ok (.string .empty) W:=λW=>Lib.run_unsafeString_none W _ _ _ none;have O:∀W,(Builtin.unsafeSliceData_ #[117] 332 #[.slice none 0 0]).run prog W=.ok (.pointer none) W:=λ_=>rfl;have mixed:=uW
  go_enter func135,ntmps135
  go_wp2
  go_region_o
  all_goals(go_wp2;go_ret;exact⟨c.draw,_,_,H,rfl,rfl,hs.draw,Ext.draw c,.str [] (cb _),rfl,rfl⟩)
theorem Zq{j k:Nat}{p:I}{t:List UInt8}(hi:H[i]?=some (.dc oe 0 [p,.osl 1 j k 0 t.length t.length]))(U:H[j]?=some (.dc u6 k<|ck t))(hk:k≠0)(ag:t≠[])(af:t.length<=1000000000000):
  cV prog 135 [.ref i 0 0] H (λv H'=>v=.str t/\H'=an H j .gone):=by
 intro c vs hs ⟨hsz,z⟩;have pZ:j≠i:=λe=>by subst e;rw[hi]at U;cases U
 obtain⟨l⟩:=vs
 match l,hsz with
 |[a],_=>
  obtain⟨f1,f2,rn,bv,aa,h1,h2,h3⟩:=hs.two hi;obtain rfl:=GP (z 0 _ _ rfl rfl) f1;have O:=(hs.rep j _ U).TN;have lL:t.length≠0:=oq ag;obtain⟨base,cap,rfl,aL,aR,bC,cD⟩:=h2.l9 O;cases hd:c.c0 j with
  |true=>have:=(bC hd).1;omega
  |false=>
   obtain⟨cw,m,cL,dx⟩:=cD hd;obtain rfl:=cw.resolve_left gf;obtain⟨K,S,V, -,CX⟩:=(hs.rep j _ U).aDh hd;rw[qO]at V;have c1:c.w.drew.cell? ⟨c.bo i,1,none⟩=some (.slice (some ⟨c.bo j,0,none⟩) t.length cap):=by rw[Lib.cell_of_heap (show c.w.drew.heap[c.bo i]?=_ from aa)];rfl
   have aOM:(Builtin.unsafeSliceData_ #[117] 332 #[.slice (some ⟨c.bo j,0,none⟩) t.length cap]).run prog c.w.drew=.ok (.pointer<|some ⟨c.bo j,0,none⟩) c.w.drew:=
    Lib.run_unsafeSliceData_row _ _ _ _ _ _ gf
   have aOQ:(Builtin.unsafeString_ #[332,3] 9 #[.pointer (some ⟨c.bo j,0,none⟩),.int .i64 t.length]).run prog c.w.drew=.ok (.string ⟨t.toArray⟩) (c.w.drew.freeze ⟨c.bo j,0,none⟩ t.length):=by
    refine Lib.run_unsafeString_row c.w.drew 332 3 9 u6 underlying332 ma (c.bo j) K.size (by simp[World.shape?,show c.w.drew.heap[c.bo j]?=_ from S]) t ag V gf λq x J=>?_
    have av:=(cu.1 J).1;rw[pL,Bz<|show c.w.drew.heap[c.bo j]?=_ from S,lr]
    have Z:K[q]?=some (K[q]'(by omega)):=lq gf
    have aJ:(ck t)[q]?=some (.int .u8 x.toNat):=by simp[ck,J]
    have:=CX q _ _ aJ Z;rw[Z];generalize K[q]'(by omega)=u at this
    cases this;rfl
   obtain⟨c',lZ,fW,gk⟩:=hs.draw.frozen U trivial (by simpa[Ctx.draw,O]using hk) hd t.length
   have mixed:=uW
   go_enter func135,ntmps135
   go_wp2
   go_region_o
   all_goals(go_wp2;go_ret;exact⟨c',_,_,_,rfl,lZ,gk,(Ext.draw c).trans fW,.str t gf,rfl,rfl⟩)
end
theorem aQP{l:List bk}{o:bk}(h:∀x∈l,lN o.at_ x.at_=false):ue o l=l++[o]:=by
 have h1:ld o l=l:=by have:=aIJ (λx=> !lN o.at_ x.at_) l [] (λx J=>j9) (λx J=>j9);rwa[cE]at this
 have h2:qv o l=[]:=by have e:=b7 List.length<|zn o l;simp_all
 rw[ue,h1,h2]
theorem HU{m:di}(h:fJ m){o:bk}(af:(gJ m).2=0)(K:cp o=true)(O:o.at_=⟨m.seen+1,m.rep⟩):(wB m o).log.nodes=eo m.log.nodes o:=by
 have U:∀x∈dU m.log,lN o.at_ x.at_=false:=λx J=>by have:=h.uj x J;rw[aL5,O];simp;omega
 show(fo m.log o).nodes=_;rw[Rj (B7 h.nS o).1,(QN h.nS K (λx J e=>by have:=h.uj x J;grind) ((Aq af).2.2.2.2.2)),aQP U,yl,<-Rj h.nS]
 rfl
theorem aMN(l):∀(k) (id x),x∈k0 l k id->∃n∈l,n.parent=x:=by
 intro k;induction k with
 |zero=>intro id x h;simp[k0]at h
 |succ k U=>
  intro id x h;rw[k0]at h;cases J:fi l id with
  |none=>rw[J]at h;simp at h
  |some n=>
   rw[J]at h;simp only at h;split at h
   ·simp at h
   ·rcases db.1 h with rfl|h
    ·exact⟨n,(B6 J).1,rfl⟩
    ·exact U _ _ h
theorem aQK{x y:Int}(J:gd x=true)(h:j4 x<=q)(U:gd y=true)(h2:q<j4 y):x<y:=by unfold j4 at h h2;rw[aC J]at h;rw[aC U]at h2;omega
theorem aNf{m:di}(h:fJ m){o:bk}(hk:o.kind=1)(S:cp o=true)(V:gd o.node=true)(cc:j4 o.node=m.seen+1)(ad:j4 o.parent<=m.seen):
  eo m.log.nodes o=m.log.nodes++[⟨o.node,o.parent,o.name,o.at_,[],nD⟩]:=by
 have U:=h.nodes;obtain⟨l,hl⟩:∃l,l=m.log.nodes:=⟨_,rfl⟩;rw[<-hl]at U ⊢;have Z:=λn af=>aQK (Ce U.lA af) (U.dg n af).id V gf;have K:fi l o.node=none:=by unfold fi;grind
 have I:refused l o=false:=by unfold refused;rw[U.lA.cG,S,hk];simp only[Bool.not_true,DT,qB,vk];unfold uT;rw[Bool.or_eq_false_iff];refine⟨j9,?_⟩;rw[DW];intro x J;simp only[iK];rintro rfl;obtain⟨n,af,e⟩:=aMN l _ _ _ J;have:=(U.dg n af).par;rw[e]at this;omega
 rw[ya I];have z:jI l o=⟨o.node,o.parent,o.name,o.at_,[],nD⟩:=by rw[NI hk,K];unfold qd;rw[K];rfl
 rw[z];have O:=by have:=aL4 (B:=[]) Z λ_ J=>p2 J;rwa[cE]at this
 have j1:upto l o.node=l.length:=by unfold upto iR;rw[K,O];rfl
 exact Qa _ (by show l=l.take (pos l o.node);rw[O,fe])<|by show[]=l.drop (upto l o.node);rw[j1,qD]
theorem aRh(s)(n)(m):hA s (h0 s n m)=some n:=by induction m<;>grind [h0,hA]
theorem aCn{s t:al}(h:s≠t)(n)(m):hA t (h0 s n m)=hA t m:=by
 induction m with
 |nil=>simp[h0,hA,h]
 |cons p m J=>
  obtain⟨k,x⟩:=p;unfold h0;by_cases hk:k=s
  ·rw[aC hk,hA,hA,ar h,ar j9]
  ·rw[ar hk,hA,hA,J]
theorem aC7(l:List aH)(n:aH)(dir:Int):fA (l++[n]) dir=mo dir (fA l dir) n:=by simp[fA]
theorem aNl{n:aH}{dir:Int}(J:cG (l++[n])=true)(U:cG l=true)(ad:n.parent=dir)(hm:pC n.gx.c n.gx.r=true)(h:fz l dir n.name=none):fz (l++[n]) dir n.name=some n:=by unfold fz at h ⊢;rw[aC J,aC7];rw[aC U]at h;unfold mo px;rw[aC j9];unfold rM;rw[h];exact aRh _ _ _
theorem Pf{n:aH}{dir:Int}{s:al}(U:cG (l++[n])=true)(K:cG l=true)(h:¬(n.parent=dir/\n.name=s)):fz (l++[n]) dir s=fz l dir s:=by
 unfold fz;rw[aC U,aC7];unfold mo;split
 ·rename_i hi;have J:=λe=>h ⟨(by simp[px]at hi;exact hi.1),e⟩
  unfold rM;split
  ·exact aCn J _ _
  ·split
   ·rfl
   ·exact aCn J _ _
 ·rfl
theorem aLJ(l:List aH)(b:List al):∀(a:List al) (x:Int),iU l x (a++b)=if(iU l x a).2=0 then iU l (iU l x a).1 b else iU l x a:=by intro a;induction a<;>grind [jb,iU,mf,fz]
theorem aLs{J:List aH}(hs:∀(x) (t) (n),fz l x t=some n->∃U,fz J x t=some U/\U.id=n.id):∀(names) (x d),iU l x names=(d,0)->iU J x names=(d,0):=by intro names;induction names<;>grind [iU,fz]
theorem Pg{p:al}{dir:Int}{s:al}(h:jn l p=(dir,s,0)):∃J,gD p=some (J++[s])/\fp l J=(dir,0)/\dv dir=true:=by
 unfold jn at h;split at h
 ·cases h
 ·cases h
 ·rename_i x xs af;split at h
  ·split at h
   ·rename_i hd;cases h;exact⟨(x::xs).dropLast,by rw[af,List.dropLast_concat_getLast],j9,hd⟩
   ·cases h
  grind
def xo(m:di)(c:cg)(dir:Int)(s:al):aH:=⟨oQ (m.seen+1) m.rep<|decide (c.kind=1),dir,s,⟨m.seen+1,m.rep⟩,[],nD⟩
structure Made (m:di) (c:cg) (dir:Int) (s:al):Prop where
 aNG:eM m c=(Kh m (wB m<|Fe m c dir s),dD,[Fe m c dir s])
 aYY:kY c=true
 root:c.path≠[47]
 aMO:jn m.log.nodes c.path=(dir,s,0)
 none_:fz m.log.nodes dir s=none
 nodes:(wB m (Fe m c dir s)).log.nodes=m.log.nodes++[xo m c dir s]
 new:∀n∈m.log.nodes,n.id≠oQ (m.seen+1) m.rep (decide<|c.kind=1)/\n.parent≠oQ (m.seen+1) m.rep (decide<|c.kind=1)
 ne:dir≠oQ (m.seen+1) m.rep (decide<|c.kind=1)
 aNm:cG (m.log.nodes++[xo m c dir s])=true
 aXT:dv (oQ (m.seen+1) m.rep<|decide (c.kind=1))= !decide (c.kind=1)
 child:fz (m.log.nodes++[xo m c dir s]) dir s=some (xo m c dir s)
theorem ZT{m:di}{c:cg}(ay:(eM m c).2.1.err=0):kY c=true/\(jD c ⟨m,dD,[]⟩).1=0:=by
 unfold eM at ay;split at ay
 ·cases ay
 ·split at ay
  ·grind
  ·rename_i hw;exact absurd ay hw
theorem aNb{m:di}(h:fJ m){c:cg}(hk:c.kind=1\/c.kind=2)(ay:(eM m c).2.1.err=0):∃dir s,Made m c dir s:=by
 obtain⟨S,hw⟩:=ZT ay;have V:jD c ⟨m,dD,[]⟩=Am c ⟨m,dD,[]⟩:=by unfold jD;rw[aC hk]
 rw[V]at hw;rcases Q2 (c:=c) (d:=⟨m,dD,[]⟩) h with⟨e,he,ax⟩|⟨dir,s,ax,O,aU,bf,K,Z⟩
 ·rw[ax]at hw;exact absurd hw he
 simp only at O aU bf K Z;obtain⟨eA,fr,im,I,z,n6⟩:=Aq bf;obtain⟨i1,i2,i3,i4⟩:=aCy (d:=decide<|c.kind=1) (show 1<=m.seen+1 by omega) (show m.seen+1<=1048576 by omega) I z
 obtain⟨cx,a2,a3⟩:=QU h.nodes h.seen O;have J:(wB m (Fe m c dir s)).log.nodes=m.log.nodes++[xo m c dir s]:=by rw[HU h bf K rfl,aNf h rfl K i1 i2 a2];rfl
 have U:cG (m.log.nodes++[xo m c dir s])=true:=by rw[<-J,HU h bf K rfl,Lo,h.nodes.lA.cG]
 refine⟨dir,s,?_,S,ax,O,aU,J,λn af=>?_,λe=>?_,U,?_,?_⟩
 ·unfold eM;rw[ar (by rw[S];simp),V,Z]
  rfl
 ·have q:=h.nodes.dg n af;have aL:=q.id;have aR:=q.par;grind
 ·rw[e,i2]at a2;omega
 ·unfold dv;rw[i1,i4];have:128<=oQ (m.seen+1) m.rep (decide<|c.kind=1):=(BB.1 i1).1;rw[dA,dA];rfl
 ·exact aNl (n:=xo m c dir s) U h.nodes.lA.cG rfl (by rw[vz];exact⟨by simp only[xo];omega,by simp only[xo];omega,I,z⟩) aU
def xV(g:aH->aH)(m:List (al×aH)):List (al×aH):=m.map λp=>(p.1,g p.2)
section
variable {g:aH->aH} (af:∀n,(g n).name=n.name) (ad:∀n,(g n).parent=n.parent) (hm:∀n,(g n).gx=n.gx)
theorem aCm(s)(m):hA s (xV g m)=(hA s m).map g:=by
 induction m with
 |nil=>rfl
 |cons p m J=>
  obtain⟨k,x⟩:=p;show hA s ((k,g x)::xV g m)=_;rw[hA,hA];split
  ·rfl
  ·exact J
theorem aC8(s)(n)(m):h0 s (g n) (xV g m)=xV g (h0 s n m):=by
 induction m with
 |nil=>rfl
 |cons p m J=>
  obtain⟨k,x⟩:=p;show h0 s (g n) ((k,g x)::xV g m)=_;rw[h0,h0];split
  ·rfl
  ·rw[J];rfl
include af hm in
theorem aRR(n:aH)(m:List (al×aH)):rM (xV g m) (g n)=xV g (rM m n):=by
 unfold rM;rw[af,aCm];cases hA n.name m with
 |none=>exact aC8 _ _ _
 |some o=>
  simp only[vj];rw[hm,hm];split
  ·rfl
  ·exact aC8 _ _ _
include af ad hm in
theorem aSl(dir:Int)(l:List aH):fA (l.map g) dir=xV g (fA l dir):=by
 have key:∀(l:List aH) (m:List (al×aH)),(l.map g).foldl (mo dir) (xV g m)=xV g (l.foldl (mo dir) m):=by
  intro l;induction l with
  |nil=>exact λm=>rfl
  |cons n l J=>
   intro m;rw[dO,qC,qC,<-J];congr 1;unfold mo px;rw[ad,hm];split
   ·exact aRR af hm n m
   ·rfl
 exact key l []
include af ad hm in
theorem aLt(l:List aH)(J:cG (l.map g)=cG l)(dir:Int)(s:al):fz (l.map g) dir s=(fz l dir s).map g:=by unfold fz;rw[J,aSl af ad hm,aCm];split<;>rfl
end
def sx(o:bk)(n:aH):aH:=if n.id=o.node then{n with data:=o.data,wrote:=o.at_}else n
theorem W6(K:ml l){o:bk}(hk:o.kind=2)(V:cp o=true)(ak:∃n∈l,n.id=o.node):eo l o=l.map (sx o)/\refused l o=false:=by
 have O:refused l o=false:=by unfold refused;rw[K.cG,V,hk];rfl
 refine⟨?_,O⟩;rw[ya O];obtain⟨A,B,U,Z,Fm,Fo,⟨e,c9⟩|⟨n,af,e, -⟩⟩:=Le K.cG o.node
 ·grind
 ·have I:fi l o.node=some n:=by rw[e];exact G4 U af
  have z:jI l o=sx o n:=by unfold jI qd sx;rw[I,hk,aC af];rfl
  have S:(sx o n).id=o.node:=by unfold sx;rw[aC af];exact af
  rw[z,e,P2 (by rw[S];exact U) (by rw[S];exact af),qz,dO]
  have k1:A.map (sx o)=A:=by
   conv=>rhs;rw[<-List.map_id A]
   refine List.map_congr_left λx J=>?_;have:=U x J;unfold sx;rw[ar gf];rfl
  have k2:B.map (sx o)=B:=by
   conv=>rhs;rw[<-List.map_id B]
   refine List.map_congr_left λx J=>?_;have:=Z x J;unfold sx;rw[ar gf];rfl
  rw[k1,k2]
theorem OB(o)(n):(sx o n).id=n.id/\(sx o n).name=n.name/\(sx o n).parent=n.parent/\(sx o n).gx=n.gx:=by unfold sx;split<;>exact⟨rfl,rfl,rfl,rfl⟩
def Mo(a b:al):Int:=if lR a b=true then-1 else if lR b a=true then 1 else 0
theorem aNr(a b:al):decide (Mo a b<0)=lR a b:=by
 unfold Mo;cases h:lR a b with
 |true=>rfl
 |false=>rw[ar hW];split<;>rfl
theorem aQS(a:Int)(H:ab):aO prog 254 [.int .i32 a] H (.bool false):=by
 refine bg func254 ?_;have ay:decide (a=a)=true:=dr rfl;repeat' first|(refine ae ?_;simp only[go_sem,ay])|refine ai ?_|fail
 exact bJ<|.of hW
def Au(a b:Int):Int:=if a<b then-1 else if b<a then 1 else 0
theorem aNs(a b:Int)(H:ab):aO prog 222 [.int .i32 a,.int .i32 b] H (.int .i64<|Au a b):=by
 refine bg func222 ?_;unfold Au;repeat' first|((first|refine cI (aQS _) ?_|refine ae ?_);simp only[go_sem])|refine bp ?_|(refine bz ?_ ?_<;>intro h<;>try exact bx h)|fail
 all_goals exact bJ<|.of (b7 _ (by simp only[iK,wY]at *;(repeat' split)<;>omega))
def NM(s:al)(k:Nat):bD:=.cells 1<|((s.take k).map λb=>I.int .i32 ((b.toNat:Int)+1114112))++List.replicate (s.length-k) (I.int .i32 0)
theorem aCW(s:al)(hs:s.length<=1073741824)(H:ab):aO prog 191 [.str s] H (.sl false<|(hT s).map j7):=by
 refine bg func191 ?_;have J:=Y1 s hs;unfold hT;cases O:tA s with
 |some l=>
  rw[O]at J;simp only[H3]at J;repeat' first|(refine ae ?_;simp only[go_sem])|refine ai ?_|fail
  exact Cb (.sl _ _ λe he=>by obtain⟨x,_,rfl⟩:=bP.1 he;exact .int _ _)<|.refl _
 |none=>
  rw[O]at J;simp only[H3]at J;repeat' first|(refine ae ?_;simp only[go_sem])|refine ai ?_|fail
  refine c7 (ι:=Nat) (λk=>[(0,.str s),(3,.osl 1 H.length 1 0 k s.length),(17,.int .i64 s.length),(18,.int .i64 k)]) (λk=>H++[NM s k]) (λk=>k<=s.length) (λk=>s.length-k) 0 (cb _) ?_ (by simp[NM,PD]) ?_
  ·simp[go_sem]
  intro k hk;by_cases U:k<s.length
  ·have K:decide ((k:Int)<(s.length:Int))=true:=cS;have V:s.getD k 0=s[k]:=by simp[gg,U]
   have aa:=s[k].toNat_lt;have Z:IntKind.i32.wrap ((s[k].toNat:Nat):Int)=((s[k].toNat:Nat):Int):=by simp[IntKind.wrap,IntKind.bits,IntKind.signed];omega
   have z:IntKind.i32.wrap (1114111+((s[k].toNat:Nat):Int))=1114111+((s[k].toNat:Nat):Int):=by simp[IntKind.wrap,IntKind.bits,IntKind.signed];omega
   have q6:IntKind.i32.wrap (1114111+((s[k].toNat:Nat):Int)+1)=((s[k].toNat:Nat):Int)+1114112:=by simp[IntKind.wrap,IntKind.bits,IntKind.signed];omega
   have SC:IntKind.i64.wrap ((k:Int)+1)=((k+1:Nat):Int):=aLO gf gf;have aT:(k=s.length)=False:=eq_false gf;obtain⟨m,hm⟩:∃m,s.length-k=m+1:=⟨s.length-k-1,gf⟩;have q1:s.length-(k+1)=m:=gf;have S:=N8 ((s.take k).map λb=>I.int .i32 ((b.toNat:Int)+1114112)) m (.int .i32 0)<|.int .i32 ((s[k].toNat:Int)+1114112)
   rw[dq,gK,Nat.min_eq_left hk]at S;have aM:(∀e,e=I.int .i32 ((s[k].toNat:Int)+1114112)->e.cells.length=1)=True:=b1 λe he=>by rw[he];rfl
   unfold NM;rw[hm];repeat' first|(refine ae ?_;simp only[go_sem,K,V,Z,z,q6,SC,aT,aM,mi,S])|refine ai ?_|fail
   exact⟨k+1,U,gf,⟨rfl,rfl⟩,by rw[q1,hc U,qz,c6];rfl⟩
  ·have k8:k=s.length:=gf;subst k8;have K:decide ((s.length:Int)<(s.length:Int))=false:=hW;unfold NM;repeat' first|(refine ae ?_;simp only[go_sem,K])|refine ai ?_|fail
   rw[fe];exact uV (es:=(s.map λb=>((b.toNat:Int)+1114112)).map j7) (rest:=List.replicate (s.length-s.length)<|I.int .i32 0) (bh _) (by simp only[go_sem];rfl) (by rw[Nat.sub_self,List.replicate_zero];congr 1;rw[sH,List.flatMap_map];exact List.map_eq_flatMap ..) hW (λe he=>by obtain⟨c,_,rfl⟩:=bP.1 he;rfl) (λe he=>by obtain⟨c,_,rfl⟩:=bP.1 he;exact .int _ _) rfl
theorem aNt(aW bA:Bool)(l m:List Int)(H:ab):aO prog 190 [.sl aW (l.map j7),.sl bA<|m.map j7] H (.int .i64<|iF l m):=by
 refine xX λZ _=>?_;have hl:=wO Z;rw[dq]at hl;refine bg func190 ?_;obtain⟨X,V⟩:∃X,iF l m=X:=⟨_,rfl⟩;rw[V];repeat' first|(refine ae ?_;simp only[go_sem])|refine ai ?_|fail
 refine c7 (ι:=Nat) (λk=>[(0,.sl aW<|l.map j7),(1,.sl bA<|m.map j7),(9,.sl aW<|l.map j7),(10,.int .i64 l.length),(11,.int .i64 k)]) (λ_=>H) (λk=>k<=l.length/\k<=m.length/\iF (l.drop k) (m.drop k)=X) (λk=>l.length-k) 0 ⟨cb _,cb _,oq V⟩ ?_ rfl ?_
 ·simp[go_sem]
 rintro k ⟨h1,h2,h3⟩;by_cases O:k<l.length
 ·have U:decide ((k:Int)<(l.length:Int))=true:=cS;have ad:=ek j7 O;have hw:IntKind.i64.wrap ((k:Int)+1)=((k+1:Nat):Int):=by rw[bS];rfl
  rw[ir O]at h3;by_cases hm:k<m.length
  ·have J:decide ((m.length:Int)<=(k:Int))=false:=dA;have aM:=ek j7 hm;have I:=aNs l[k] m[k];rw[ir hm,iF]at h3;by_cases K:Au l[k] m[k]=0
   ·have S:decide (Au l[k] m[k]=0)=true:=dr K;have:¬l[k]<m[k]/\¬m[k]<l[k]:=by unfold Au at K;(repeat' split at K)<;>omega
    rw[ar this.1,ar this.2]at h3;repeat' first|(refine ae ?_;simp only[go_sem,U,J,ad,aM,S,hw,j7])|refine ai ?_|fail
    exact⟨k+1,⟨O,hm,h3⟩,gf,rfl⟩
   ·have S:decide (Au l[k] m[k]=0)=false:=b0 K;have:Au l[k] m[k]=X:=by rw[<-h3];unfold Au at K ⊢;(repeat' split)<;>first|rfl|omega
    repeat' first|(refine ae ?_;simp only[go_sem,U,J,ad,aM,S,j7])|refine ai ?_|fail
    exact bJ<|.of (by rw[this])
  ·have J:decide ((m.length:Int)<=(k:Int))=true:=cS;rw[show m.drop k=[]from List.drop_eq_nil_of_le gf,iF]at h3
   repeat' first|(refine ae ?_;simp only[go_sem,U,J,ad,j7])|refine ai ?_|fail
   exact bJ<|.of (by rw[<-h3])
 ·have U:decide ((k:Int)<(l.length:Int))=false:=dA;rw[show l.drop k=[]from List.drop_eq_nil_of_le gf]at h3
  by_cases hm:l.length<m.length
  ·have J:decide ((l.length:Int)<(m.length:Int))=true:=cS;rw[ir (show k<m.length by omega),iF]at h3
   repeat' first|(refine ae ?_;simp only[go_sem,U,J])|refine ai ?_|fail
   exact bJ<|.of (by rw[<-h3])
  ·have J:decide ((l.length:Int)<(m.length:Int))=false:=dA;rw[show m.drop k=[]from List.drop_eq_nil_of_le gf,iF]at h3
   repeat' first|(refine ae ?_;simp only[go_sem,U,J])|refine ai ?_|fail
   exact bJ<|.of (by rw[<-h3])
theorem aCu(a b:al)(J:a.length<=1073741824)(U:b.length<=1073741824)(H:ab):aO prog 150 [.str a,.str b] H (.bool<|lR a b):=by
 refine bg func150 ?_;have h1:=aCW a J;have h2:=aCW b U;have h3:=aNt false false (hT a)<|hT b;repeat' first|(refine ae ?_;simp only[go_sem])|refine ai ?_|fail
 exact bJ<|.refl _
theorem aSa(a b:al)(J:a.length<=1073741824)(U:b.length<=1073741824)(H:ab):aO prog 149 [.str a,.str b] H (.int .i64<|Mo a b):=by
 refine bg func149 ?_;have h1:=aCu a b J U;have h2:=aCu b a U J;unfold Mo;repeat' first|(refine ae ?_;simp only[go_sem])|refine bp ?_|(refine bz ?_ ?_<;>intro h<;>try exact bx h)|fail
 all_goals exact bJ<|.of nP
structure mN (es:List (I×I×Nat)) (clock:Nat):Prop where
 dg:(es.map (·.2.2)).Nodup
 lt:∀p∈es,p.2.2<clock
theorem mN.find(h:mN es clock)(ad:p∈es):es.find? (λq=>q.2.2==p.2.2)=some p:=by have af:=h.dg;clear h;induction es<;>grind
theorem mN.aAt(h:mN es clock)(ad:p∈es)(J:List Nat):Me clock (J++[p.2.2]) (.map es clock)=⟨.aN [p.1,p.2.1],True⟩:=by simp only[Me,List.getLast?_append,List.getLast?_singleton,Option.some_or,h.find ad]
theorem mN.filter(h:mN es clock)(f:I×I×Nat->Bool):mN (es.filter f) clock:=
 ⟨List.Nodup.sublist (List.Sublist.map _ List.filter_sublist) h.dg,λp ad=>h.lt p (mg.1 ad).1⟩
structure tV (es ps:List (I×I×Nat)):Prop where
 sub:∀p∈ps,p∈es
 dg:(ps.map (·.2.2)).Nodup
theorem tV.step(h:tV es ps)(ad:p∈vC es (ps.map (·.2.2))):tV es (ps++[p])/\p∈es:=by
 obtain⟨h1,h2⟩:=mg.1 ad;refine⟨⟨λq aM=>?_,?_⟩,h1⟩
 ·grind [fH,dH,List,Nat,tV,vC]
 grind [fH,dH,List,Nat,tV,vC,List.nodup_append,dO,jm,yt]
theorem aCx{α β:Type}(f:α->β){l:List α}(h:(l.map f).Nodup):l.Nodup:=by induction l<;>grind
theorem aRu{α:Type}[DecidableEq α]{xs ys:List α}(af:xs.Nodup)(hs:∀x∈xs,x∈ys):xs.length<=ys.length:=by
 induction xs generalizing ys with
 |nil=>exact cb _
 |cons x xs K=>
  rw[tK]at af;have J:=hs x hW;have h2:∀z∈xs,z∈ys.erase x:=λz U=>(List.mem_erase_of_ne (by rintro rfl;exact af.1 U)).2<|hs z (lU _ U)
  have:=K af.2 h2;grind
theorem tV.len(h:tV es ps):ps.length<=es.length:=by
 have:=aRu (ys:=es.map (·.2.2)) h.dg λx J=>by grind [bP,List,Nat,tV]
 simpa using this
theorem tV.perm(h:tV es ps)(J:mN es clock)(he:vC es (ps.map (·.2.2))=[]):ps.Perm es:=by
 refine(List.perm_ext_iff_of_nodup (aCx _ h.dg) (aCx _ J.dg)).2 λp=>⟨h.sub p,λad=>?_⟩;have:p.2.2∈ps.map (·.2.2):=by have:=List.filter_eq_nil_iff.1 he p ad;simpa using this
 obtain⟨q,aM,e⟩:=bP.1 this;have ax:=J.find<|h.sub q aM;have U:=J.find ad;rw[e]at ax;rw[ax]at U;cases U;exact aM
theorem aQ0(K:mN es clock)(i y:Nat)(J:List I->ab->Prop)(H:ab)(V:∀bO G,J bO G->az G i=.map es clock)(cc:∀bO G L,J bO G->J bO (G++L))(mX:∀bO G it X,J bO G->H.length<=it->J bO (an G it X))
  (qU:∀bO p G it B,p∈es->bO.length<es.length->J bO G->H.length<=it->az G it=B->B.live->sJ prog y [p.1] G (λv O=>v=.bool true/\J (bO++[p.1]) O/\az O it=B)) (ay:J [] H):
  cV prog 189 [.func (.yield y) [] [],.cptr [.map i]] H (λ_ G=>∃ps:List (I×I×Nat),ps.Perm es/\J (ps.map (·.1)) G):=by
 refine mS func189 ?_;have hm:=V _ _ ay;refine hH ?_;refine c7 (ι:=List (I×I×Nat)×ab) (λs=>[(0,.func (.yield y) [] []),(5,.iter H.length)]) (λs=>s.2) (λs=>tV es s.1/\J (s.1.map (·.1)) s.2/\az s.2 H.length=.iY i clock (s.1.map (·.2.2)) clock) (λs=>es.length-s.1.length)
  ([],H++[.iY i clock [] clock]) ⟨⟨λp ad=>(p2 ad),hW⟩,cc _ _ _ ay,uP H _⟩ ?_ rfl ?_
 ·simp[go_sem]
 rintro⟨ps,G⟩ ⟨a7,hj,Z⟩;simp only at a7 hj Z ⊢;have z:=V _ _ hj;have av:=cZ Z trivial;repeat' first|(refine ae ?_;simp only[go_sem])|refine ai ?_|fail
 refine⟨H.length,i,clock,ps.map (·.2.2),clock,es,clock,rfl,Z,z,λp ad=>⟨K.lt p ad,K.lt p ad⟩,λhe=>?_,λp ad=>?_⟩
 ·simp only[go_sem];repeat' first|(refine ae ?_;simp only[go_sem])|refine ai ?_|fail
  exact⟨ps,a7.perm K he,hj⟩
 ·obtain⟨hy,xK⟩:=a7.step ad;obtain⟨B,S⟩:∃B,B=bD.iY i clock (ps.map (·.2.2)++[p.2.2]) clock:=⟨_,rfl⟩;rw[<-S];have U:=mX _ _ H.length B hj<|bh _;have g1:az (an G H.length B) H.length=.iY i clock (ps.map (·.2.2)++[p.2.2]) clock:=by rw[dK av,S]
  have g2:=V _ _ U;have g3:=K.aAt xK<|ps.map (·.2.2);have CO:=hy.len;rw[bw,List.length_singleton]at CO;have aJ:=qU _ p _ H.length B xK (by rw[dq];omega) U (bh _) (dK av B)<|by rw[S];trivial
  generalize an G H.length B=dd at *;simp only[go_sem];refine hH ?_;refine NQ aJ ?_;rintro v O ⟨rfl,aOB,aPv⟩;simp only[go_sem];repeat' first|(refine ae ?_;simp only[go_sem])|refine ai ?_|fail
  refine⟨(ps++[p],O),⟨hy,oq aOB,by simp only;rw[aPv,S];simp⟩,?_,rfl⟩
  have:=hy.len;simp only[bw,cd,dZ]at this ⊢;omega
theorem aQ1(i:Nat)(H:ab)(hi:i<H.length):aO prog 148 [.map i] H (.func (.func 189) [] [.cptr [.map i]]):=by
 refine bg func148 ?_;refine a7 ?_;refine⟨_,_,rfl,?_,rfl⟩;refine .func _ _ _ _ _ rfl rfl fx<|ds (DE (bh _) mZ ?_) fx
 simp only[dH,zM];exact .map _ hi
theorem aCi{A:bD}(J:ed n A)(U:ed n B):∀(j:Nat) (b:bD),(H++[A,B])[j]?=some b->H[j]?=some b\/ed n b:=λj b K=>by grind
structure aDJ (H:ab) (es:List (I×I×Nat)) (clock i:Nat) (dJ:bD) (bO:List I) (G:ab):Prop where
 pre:∃M,G=H++M
 fL:az G H.length=.cells 0 [.osl 1 (H.length+1) (bO.length+1) 0 bO.length bO.length]
 aW:az G (H.length+1)=.cells (bO.length+1) bO
 bA:az G (H.length+2)=dJ
 m:az G i=.map es clock
 tx:∀k∈bO,∃s:al,k=.str s
theorem aMZ(aD:mN es clock)(i:Nat)(lK:∀p∈es,∃s:al,p.1=.str s)(hl:es.length<=1073741824)(H:ab)(hm:az H i=.map es clock):
  cV prog 219 [.sl true [],.func (.func 189) [] [.cptr [.map i]]] H
   (λr H'=>∃ps:List (I×I×Nat),ps.Perm es/\r=.osl 1 (H.length+1) (ps.length+1) 0 ps.length ps.length/\∃A,ed (H.length+2) A/\H'=H++[A,.cells (ps.length+1)<|ps.map (·.1)]):=by
 refine uf func219 ?_;have MU:=cZ hm trivial;refine a7 ?_;refine uM H.length 0 1 (by simp only[go_sem];rfl) rfl ?_
 simp only[go_sem];refine H2 [(2,.ref H.length 0 0),(6,.func (.func 189) [] [.cptr [.map i]])] (by simp[go_sem]) ?_
 refine J7 rfl aI λy dJ Z=>?_;have z:dJ.live:=by rw[Z];trivial
 rw[c6];have R4:(H++[bD.cells 0 [.osl 1 (H.length+1) 1 0 0 0],.cells 1 []]).length=H.length+2:=hW;rw[R4];refine(aQ0 aD i y (aDJ H es clock i dJ) _ (λbO G h=>h.m) (λbO G L h=>⟨let⟨M,e⟩:=h.pre;⟨M++L,by rw[e,c6]⟩,bX h.fL trivial L,bX h.aW trivial L,bX h.bA z L,bX h.m trivial L,h.tx⟩) (λbO G it X h ta=>?_) (λbO p G it B ad nW h ta cf aX9=>?_) ?_).mono λ_ H' ⟨ps,ad,h⟩=>?_
 ·have aPu:H.length+3<=it:=by simpa[vh]using ta
  exact⟨lz h.pre gf X,bN h.fL gf X,bN h.aW gf X,bN h.bA gf X,bN h.m gf X,h.tx⟩
 ·have aPu:H.length+3<=it:=by simpa[vh]using ta
  obtain⟨s,hs⟩:=lK p ad;rw[hs];refine KL h.bA Z rfl rfl rfl rfl λU fin Cx xE gO jg=>?_;have f3:=bE h.bA z;have g3:=hU h.bA z;simp only[w8];refine uu rfl ?_;simp only[go_sem];refine⟨h.bA,?_⟩;obtain⟨O,S⟩:∃O,an G (H.length+2) U=O:=⟨_,rfl⟩;rw[S];have jN:=cZ h.bA z;have hlen:G.length=O.length:=by rw[<-S];simp[an]
  have a0:=bN h.fL (i:=H.length+2) gf U;have cx:=bN h.aW (i:=H.length+2) gf U;have a2:az O (H.length+2)=U:=by rw[<-S];exact dK jN U
  have a3:=bN h.m (i:=H.length+2) gf U;have a4:=bN cf (i:=H.length+2) gf U;rw[S]at a0 cx a3 a4;have a5:∃M,O=H++M:=by rw[<-S];exact lz h.pre gf U
  have jw:(∀e,e=I.str s->e.cells.length=1)=True:=b1 λe he=>by rw[he];rfl
  have jO:((bO.length+1) * 16<=140737488355328)=True:=b1 gf;clear Z Cx jg;have mP:=λY=>bN a0 (i:=H.length+1) gf Y;have eG:∀n,ed n (.cells (bO.length+2)<|bO++[I.str s]):=λn x J=>by
   rcases fH.1 J with J|J
   ·obtain⟨t,rfl⟩:=h.tx x J;exact .str _
   ·rw[dH]at J;subst J;exact .str _
  have cM:=cZ cx trivial;have lL:=cZ a0 trivial;have ee:du [I.osl 1 (H.length+1) (bO.length+1) 0 bO.length bO.length] 0 [.osl 1 (H.length+1) (bO.length+2) 0 (bO.length+1) (bO.length+1)]=[.osl 1 (H.length+1) (bO.length+2) 0 (bO.length+1) (bO.length+1)]:=rfl;refine bL @mi ?_;refine⟨bN (bN a2 gf _) gf _,_,[],(cE _).symm,by rw[bc,bc],λj b au=>?_,rfl,?_,?_⟩
  ·rcases ns (n:=O.length) (b:=.cells 0 [.osl 1 (H.length+1) (bO.length+2) 0 (bO.length+1) (bO.length+1)]) (λx J=>by rw[dH]at J;subst J;exact .osl _ _ _ _ _ _ gf) j b au with q|q
   ·exact ns (eG _) j b q
   ·exact .inr q
  ·have V:(bO++[I.str s]).length=bO.length+1:=hW;rw[gO];have th:∀k∈bO++[I.str s],∃s:al,k=.str s:=λk hk=>by
    rcases fH.1 hk with hk|hk
    ·exact h.tx k hk
    ·rw[dH]at hk;exact⟨s,hk⟩
   refine⟨lz (lz (lz a5 gf _) gf _) gf _,?_,?_,?_,?_,th⟩
   ·rw[V];exact bN (dK (by rw[bc];exact lL) _) gf _
   ·rw[V];exact bN (bN (dK cM _) gf _) gf _
   ·exact dK (by rw[bc,bc,<-hlen];exact jN) _
   ·exact bN (bN (bN a3 gf _) gf _) gf _
  ·exact bN (bN (bN a4 gf _) gf _) gf _
 ·exact⟨⟨_,rfl⟩,mZ,mZ,mZ,bX hm trivial _,λk hk=>p2 hk⟩
 ·refine .inl ⟨.ready,hW,h.bA.trans Z,λX=>?_⟩;have K:=bN h.fL (i:=H.length+2) gf X;have ax:=bN h.aW (i:=H.length+2) gf X;obtain⟨M,aq⟩:=lz (H:=H) h.pre (i:=H.length+2) gf X;obtain⟨dd,hy⟩:∃dd,an H' (H.length+2) X=dd:=⟨_,rfl⟩;rw[hy]at K ax aq ⊢;simp only[go_sem];repeat' first|(refine ae ?_;simp only[go_sem,K])|refine ai ?_|fail
  rw[aq,uP]at K;rw[aq,Bn,dq]at ax
  match M,K,ax with
  |A::B::L,K,ax=>
   simp only[List.getD_cons_zero,List.getD_cons_succ]at K ax;subst K;subst ax;have aL:ed (H.length+2) (.cells 0 [.osl 1 (H.length+1) ((ps.map (·.1)).length+1) 0 (ps.map (·.1)).length (ps.map (·.1)).length]):=λx J=>by rw[dH]at J;subst J;exact .osl _ _ _ _ _ _ gf
   have aR:ed (H.length+2) (.cells (ps.length+1)<|ps.map (·.1)):=λx J=>by obtain⟨q,aM,rfl⟩:=bP.1 J;obtain⟨s,e⟩:=lK q<|ad.mem_iff.1 aM;rw[e];exact .str _
   exact⟨H++[_,_],L,_,by rw[aq,c6];rfl,hW,by simpa using aCi aL aR,.cl _<|.osl _ _ _ _ _ _ hW,ps,ad,rfl,_,aL,rfl⟩
theorem aCv(b:Nat)(m:List (al×aH)):(fY b m).map (·.2.2)=List.range' b m.length:=by
 induction m generalizing b with
 |nil=>rfl
 |cons p m J=>rw[fY,dO,J,cd,BH]
theorem Z9(m:List (al×aH)):mN (fY 0 m) m.length where
 dg:=by rw[aCv];exact List.nodup_range'
 lt:=λp ad=>by have:p.2.2∈(fY 0 m).map (·.2.2):=bP.2 ⟨p,ad,rfl⟩;rw[aCv]at this;have:=List.mem_range'_1.1 this;omega
theorem ZU(b:Nat)(m:List (al×aH)):(fY b m).map (·.1)=(m.map (·.1)).map I.str:=by
 induction m generalizing b with
 |nil=>rfl
 |cons p m J=>rw[fY,dO,J];rfl
def N7:I->al
 |.str s=>s
 |_=>[]
theorem aRL{xs:List I}(h:xs.Perm (bO.map I.str)):∃U:List al,xs=U.map I.str/\U.Perm bO:=by
 refine⟨xs.map N7,?_,?_⟩
 ·rw[sH];have J:∀x∈xs,(I.str∘N7) x=x:=λx J=>by
   obtain⟨s, -,rfl⟩:=bP.1<|h.mem_iff.1 J;rfl
  rw[List.map_congr_left J,List.map_id']
 ·have:=h.map N7;rw[sH]at this;simpa[Function.comp_def,N7]using this
theorem aN9(l:List al):(l.map I.str).flatMap I.cells=l.map I.str:=by rw[List.flatMap_map];exact(List.map_eq_flatMap ..).symm
def BT(l:List al):Prop:=∀s∈l,s.length<=1073741824
def DF(l:List al)(h:BT l):List kV:=l.attach.map λs=>⟨s.1,h s.1 s.2⟩
theorem aDj(l:List al)(h:BT l):(DF l h).map (·.1)=l:=by unfold DF;rw[sH];show l.attach.map (λs=>s.1)=l;exact List.attach_map_subtype_val l
theorem aSu{d d':Array kV}(ad:(d.toList.map (·.1)).Perm bO)(h1:Sort.PermIn 0 d.size d d')(h2:Sort.SortedIn (λa b=>lR a.1 b.1) 0 d.size d'):d'.toList.map (·.1)=qH bO:=by
 obtain⟨ax, -,aU⟩:=h1;have J:∀(a:Array kV),a.extract 0 a.size=a:=λa=>hW;rw[J d]at aU;rw[<-ax,J d']at aU;refine aK6 ?_<|(aU.map _).trans ad;rw[List.pairwise_map,KR];intro i j hi U K;have O:i<d'.size:=oq hi
 have S:j<d'.size:=oq U;have:=h2 i j (cb _) K gf;simp only[getElem!_pos d' i O,getElem!_pos d' j S]at this;simpa using this
theorem aNu(O:mN es clock)(i:Nat)(U:∀p∈es,∃s:al,p.1=.str s)(hl:es.length<=1073741824)(H:ab)(hm:az H i=.map es clock):
  cV prog 187 [.func (.func 189) [] [.cptr [.map i]]] H
   (λr H'=>∃ps:List (I×I×Nat),ps.Perm es/\r=.osl 1 (H.length+1) (ps.length+1) 0 ps.length ps.length/\∃A,ed (H.length+2) A/\H'=H++[A,.cells (ps.length+1)<|ps.map (·.1)]):=by
 refine uf func187 ?_;refine a7 ?_;refine c4 (aMZ O i U hl H hm) aI ?_;rintro r H' ⟨ps,ad,rfl,A,K,rfl⟩;simp only[go_sem];refine a7 ?_;have S:ed (H.length+2) (.cells (ps.length+1)<|ps.map (·.1)):=λx J=>by obtain⟨q,aM,rfl⟩:=bP.1 J;obtain⟨s,e⟩:=U q<|ad.mem_iff.1 aM;rw[e];exact .str _
 exact⟨H++[A,.cells (ps.length+1)<|ps.map (·.1)],[],_,(cE _).symm,hW,by simpa using aCi K S,.cl _<|.osl _ _ _ _ _ _ hW,ps,ad,rfl,A,K,rfl⟩
theorem aRi:Sort.SWO (λa b:kV=>lR a.1 b.1) where
 irrefl:=λx=>Eu.irrefl x.1
 trans:=λx y z=>Eu.trans x.1 y.1 z.1
 ntrans:=λx y z=>Eu.ntrans x.1 y.1 z.1
theorem aSt(S:mN es clock)(i:Nat)(hk:es.map (·.1)=bO.map I.str)(hs:BT bO)(hl:es.length<=1073741824)(H:ab)(hm:az H i=.map es clock):
  aO prog 147 [.func (.func 189) [] [.cptr [.map i]],.func (.func 149) [] []] H (.sl false<|(qH bO).map I.str):=by
 refine bg func147 ?_;have V:∀p∈es,∃s:al,p.1=.str s:=λp ad=>by have:p.1∈bO.map I.str:=hk▸bP.2 ⟨p,ad,rfl⟩;obtain⟨s, -,e⟩:=bP.1 this;exact⟨s,e.symm⟩
 refine a7 ?_;refine c4 (aNu S i V hl H hm) aI ?_;rintro r H' ⟨ps,ad,rfl,A,cc,rfl⟩
 -- the keys, in whatever order
 obtain⟨J,K,O⟩:∃J:List al,ps.map (·.1)=J.map I.str/\J.Perm bO:=by have h1:(ps.map (·.1)).Perm (bO.map I.str):=hk▸ad.map _;exact aRL h1
 have U:BT J:=λs h=>hs s<|O.mem_iff.1 h
 have hlen:ps.length=(DF J U).toArray.size:=by have:=b7 List.length K;simp only[dq]at this;simp[DF,this]
 have hd:ps.map (·.1)=pQ (DF J U).toArray:=by
  unfold pQ;rw[K];conv=>lhs;rw[<-aDj J U]
  simp
 rw[hd];have dL:=ad.length_eq;simp only[go_sem];refine a7 ?_;refine c4 (aRI aRi (λx y=>aNr x.1 y.1) (λa b H=>aSa a.1 b.1 a.2 b.2 H) aI hlen gf _<|show az (H++[A,.cells (ps.length+1) (pQ (DF J U).toArray)]) (H.length+1)=_ from Bn H _ 1) aI ?_
 rintro r H' ⟨d',s1,s2,rfl,rfl⟩;have Z:((DF J U).toArray.toList.map (·.1)).Perm bO:=by rw[List.toList_toArray,aDj J U];exact O
 have z:d'.toList.map (·.1)=qH bO:=aSu Z (by rw[<-hlen];exact s1)<|by rw[<-hlen];exact s2
 simp only[go_sem];refine a7 ?_;have ax:pQ d'=(qH bO).map I.str:=by rw[<-z,sH];rfl
 have aq:ps.length=((qH bO).map I.str).length:=by rw[<-ax,LC,hlen];exact s1.1.symm
 rw[ax];exact uV (cs:=(qH bO).map I.str) (es:=(qH bO).map I.str) (rest:=[]) gf mZ (by rw[cE,aN9]) aq.symm (λe he=>by obtain⟨x,_,rfl⟩:=bP.1 he;rfl) (λe he=>by obtain⟨x,_,rfl⟩:=bP.1 he;exact .str _) rfl
theorem aC1(J:mN es clock)(i:Nat)(hk:es.map (·.1)=bO.map I.str)(hs:BT bO)(hl:es.length<=1073741824)(H:ab)(hm:az H i=.map es clock):
  aO prog 97 [.map i] H (.sl false<|(qH bO).map I.str):=by
 refine bg func97 ?_;refine a7 ?_;refine ia (aQ1 i H<|cZ hm trivial) aI ?_;simp only[go_sem];refine ia (aSt J i hk hs hl H hm) aI ?_;simp only[go_sem];refine a7 ?_;exact Cb (.sl _ _ λe he=>by obtain⟨x,_,rfl⟩:=bP.1 he;exact .str _)<|.refl _
theorem L8(l:List aH)(dir:Int):(fA l dir).length<=l.length:=by
 have h:∀(k:List aH) (m:List (al×aH)),(k.foldl (mo dir) m).length<=m.length+k.length:=by
  intro k;induction k with
  |nil=>exact λm=>bh _
  |cons x k J=>
   intro m;have h1:=J<|mo dir m x;have hs:∀s (n:aH) (m:List (al×aH)),(h0 s n m).length<=m.length+1:=λs n m=>by
    induction m with
    |nil=>simp[h0]
    |cons q m J=>obtain⟨k,y⟩:=q;unfold h0;split<;>simp;exact J
   have h2:(mo dir m x).length<=m.length+1:=by
    unfold mo rM;split
    ·split
     ·exact hs _ _ _
     ·split
      ·omega
      ·exact hs _ _ _
    ·omega
   rw[qC,cd];omega
 simpa[fA]using h l []
def rI(l:List aH):Prop:=∀n∈l,n.name.length<=1073741824
theorem TD(h:rI l)(dir:Int):BT ((fA l dir).map (·.1)):=λs hs=>by obtain⟨p,ad,rfl⟩:=bP.1 hs;rw[<-(Bj l dir).2 p ad];exact h _ (Kf l dir p ad).1
theorem aMA(b:Bool)(l:List aH)(dir:Int)(hl:l.length<=1073741824)(af:rI l)(H:ab):aO prog 303 [.sl b (l.map bj),.int .i64 dir] H (.sl false<|(yD l dir).map I.str):=by
 refine bg func303 ?_;unfold yD;cases hs:cG l with
 |false=>
  repeat' first|((first|refine cI (lP _ _) ?_|refine ae ?_);simp only[go_sem,hs])|refine ai ?_|fail
  exact bJ<|.sl _ _
 |true=>
  rw[aC rfl];repeat' first|((first|refine cI (lP _ _) ?_|refine ae ?_);simp only[go_sem,hs])|refine ai ?_|fail
  refine c4 (Qe b l dir hl H) aI ?_;rintro v H' ⟨rfl,rfl⟩;simp only[go_sem];refine ia (aC1 (Z9 _) H.length (ZU 0 _) (TD af dir) (by rw[ZO];have:=L8 l dir;omega) _<|uP H _) aI ?_
  simp only[go_sem];refine a7 ?_;exact done (.sl _ _ λe he=>by obtain⟨x,_,rfl⟩:=bP.1 he;exact .str _)<|.refl _
theorem or_eq(a b:Ord):(decide (a.kind=b.kind)&&(decide (a.call.kind=b.call.kind)&&(decide (a.call.path=b.call.path)&&(decide (a.call.to=b.call.to)&&(decide (a.call.data=b.call.data)&&decide (a.call.n=b.call.n))))&&(decide (a.pick=b.pick)&&decide (a.cC=b.cC))))=decide (a=b):=by obtain⟨_,⟨_,_,_,_,_⟩,_,_⟩:=a;obtain⟨_,⟨_,_,_,_,_⟩,_,_⟩:=b;rw[zL];simp[and_assoc]
theorem aLK(aW bA:Bool)(l m:List Ord)(H:ab):aO prog 44 [.sl aW (l.map da),.sl bA<|m.map da] H (.bool<|decide (l=m)):=by
 refine xX λU _=>?_;have hl:=wO U;rw[dq]at hl;refine bg func44 ?_;repeat' first|(refine ae ?_;simp only[go_sem])|refine bp ?_|(refine bz ?_ ?_<;>intro h<;>try exact bx h)|fail
 ·exact bJ<|.of (by rw[b0 (λe=>by subst e;simp at h)])
 ·have hlen:l.length=m.length:=by simp at h;omega
  refine c7 (ι:=Nat) (λi=>[(0,.sl aW<|l.map da),(1,.sl bA<|m.map da),(5,.int .i64 i)]) (λ_=>H) (λi=>i<=l.length/\l.take i=m.take i) (λi=>l.length-i) 0 ⟨cb _,rfl⟩ ?_ rfl ?_
  ·simp[go_sem]
  ·rintro i ⟨hi,he⟩;by_cases J:i<l.length
   ·have ad:=ek da J;have aM:=ek da<|show i<m.length by omega
    repeat' first|(refine ae ?_;simp only[go_sem,ad,aM,da])|refine bp ?_|(refine bz ?_ ?_<;>intro h<;>try exact bx h)|fail
    ·rw[or_eq]at h;have K:l[i]≠m[i]:=oq h;exact bJ<|.of (by rw[b0 (λe=>K (by subst e;rfl))])
    ·rw[or_eq]at h;have heq:l[i]=m[i]:=oq h;exact⟨i+1,⟨J,by rw[hc J,hc gf,he,heq]⟩,gf,by rw[bS];rfl⟩
   ·have O:i=l.length:=gf;subst O;repeat' first|(refine ae ?_;simp only[go_sem])|refine bp ?_|(refine bz ?_ ?_<;>intro h<;>try exact bx h)|fail
    exact bJ<|.of (by rw[dr (by rw[fe,hlen,fe]at he;exact he)])
section
open Go.ChangeShapes Go.WideShapes Go.ChangeAt Go.RowKit
theorem aNh{H:Type}{d:DataW H}{l:List (DataW H)}(h:d∈l):Rows.uptoBulk d<=Rows.uptoBulkAll l:=by
 induction l with
 |nil=>cases h
 |cons x r J=>
  simp only[Rows.uptoBulkAll];cases h with
  |head=>omega
  |tail _ h=>have:=J h;omega
theorem aNg{H:Type}{d:DataW H}{l:List (DataW H)}(hk:Rows.uptoSmall H l=true)(h:d∈l):Rows.uptoBulk d<=1048576:=by
 have h1:Rows.uptoBulkAll l<=1048576:=by simpa[Rows.uptoSmall]using hk
 exact e1 (aNh h) h1
mutual
theorem Fi{H:Type}:∀d:DataW H,iE d=Rows.uptoBulk d
 |.lit (.string bytes)=>by simp[iE,Rows.uptoBulk]
 |.lit (.int _ _)=>by simp[iE,Rows.uptoBulk]
 |.lit (.bool _)=>by simp[iE,Rows.uptoBulk]
 |.lit l=>by cases l<;>simp[iE,Rows.uptoBulk]
 |.nil=>by simp[iE,Rows.uptoBulk]
 |.ptr d=>by simp[iE,Rows.uptoBulk,Fi d]
 |.slice elems spare=>by simp[iE,Rows.uptoBulk,Mp elems,Mp spare]
 |.agg parts=>by simp[iE,Rows.uptoBulk,Mp parts]
 |.iface _ d=>by simp[iE,Rows.uptoBulk,Fi d]
 |.map entries=>by simp[iE,Rows.uptoBulk,aAj entries]
 |.held _=>by simp[iE,Rows.uptoBulk]
theorem Mp{H:Type}:∀l:List (DataW H),wo l=Rows.uptoBulkAll l
 |[]=>by simp[wo,Rows.uptoBulkAll]
 |d::r=>by simp[wo,Rows.uptoBulkAll,Fi d,Mp r]
theorem aAj{H:Type}:∀l:List (Lit×DataW H),Kz l=Rows.uptoBulkEntries l
 |[]=>by simp[Kz,Rows.uptoBulkEntries]
 |x::r=>by simp[Kz,Rows.uptoBulkEntries,aNy x,aAj r]
theorem aNy{H:Type}:∀x:Lit×DataW H,LB x=Rows.uptoBulkEntry x
 |(.string bytes,d)=>by simp[LB,Rows.uptoBulkEntry,Fi d]
 |(l,d)=>by cases l<;>simp[LB,Rows.uptoBulkEntry,Fi d]
end
theorem KF{H:Type}{d:DataW H}{l:List (DataW H)}(hk:Rows.uptoSmall H l=true)(h:d∈l)(J:h8 (iE d) x):h8 1048576 x:=
 J.mono (by rw[Fi];exact aNg hk h)
theorem h8.NV{s:List UInt8}(h:h8 n (.str s)):s.length<=n:=by cases h;assumption
theorem h8.aDa{f:Bool}{es:List I}(h:h8 n (.sl f es)):es.length<=n/\∀x∈es,h8 n x:=by cases h;exact⟨by assumption,by assumption⟩
theorem h8.aMW(h:h8 n (.agg cs)):∀x∈cs,h8 n x:=by cases h;assumption
variable {P:Program} {H:Type} {enc:TypeId×Value->H} {W:World} {base:Nat} {sp:Nat->Bool} {held:Bool}
section
variable {H:Type} {enc:TypeId×Value->H}
theorem U8{C:Checked}{os:Os}{s:OpenSpec}{conds:List PathCond}{apart:Bool}{laid:List (String×DataW Unit)}(modest:Bool)(J:World)(args:Array Value)(O:J.os=os)
  (S:(J.forCall (λ_ _=>0) ⟨#[],args,[]⟩).Shaped C.prog)
  (K:Input.okWideB C.prog (J.forCall (λ_ _=>0) ⟨#[],args,[]⟩) f ⟨#[],args,[]⟩=true)
  (U:s.preRow enc C.prog fn conds apart laid (J.forCall (λ_ _=>0) ⟨#[],args,[]⟩).memory args):
  ∃(w:World) (tape:Tape) (i:Input),w.os=os/\(w.forCall tape i).Shaped C.prog/\i.vars=[]/\Input.okWide C.prog (w.forCall tape i) .any w.heap.size f i/\
   s.preRow enc C.prog fn conds apart laid (w.forCall tape i).memory i.args/\({modest:=modest}:Assume).holds C.prog (lone (Frame.enter C.prog f i.args .normal) [] (w.forCall tape i)):=
 ⟨J,λ_ _=>0,⟨#[],args,[]⟩,O,S,(Input.okWide_of_okWideB (base:=0) K).1,(Input.okWide_of_okWideB K).2,U,by
  simp only[Assume.holds];exact⟨hW,hW,λ_=>Modest.zero,hW,hW⟩⟩
end
end
end Go.Proofs.YtnmamncmpklliaaGreatDoor
