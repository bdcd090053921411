/- What functions answer. No condition. -/
import Derived.Test.YtnmamncmpklliaaGreatDoorWorkN
set_option linter.unusedSimpArgs false
set_option linter.unusedVariables false
set_option maxRecDepth 100000
set_option maxHeartbeats 16000000
namespace Go.Proofs.YtnmamncmpklliaaGreatDoor
variable{m:UInt8}{s p:al}{i k:Nat}{args:List I}{H:ab}{v:I}{K:I->ab->Prop}{n:Int}{d:gh}
open Go.Proofs.Tryz
def B5(s:al):Option al:=if s.length<4 then none else if yJ (uc<|s.take (s.length-4))=s.drop (s.length-4)then some (s.take<|s.length-4)else none
def Ep(s:al):I:=match B5 s with
 |none=>.aN [.str [],.bool false]
 |some t=>.aN [.str t,.bool true]
def wq(m:UInt8)(s:al)(i:Nat):Bool:=decide (s.getD (16 * i) 0=m)&&decide (s.getD (16 * i+15) 0=m)
def kH(m:UInt8)(s:al):Nat:=((List.range (s.length / 16)).takeWhile (wq m s)).length
def sb(s:al)(i:Nat):al:=(s.drop (16 * i+1)).take 14
theorem PV{p:Nat->Bool}:∀(l:List Nat),(∀i (h:i<(l.takeWhile p).length),p (l[i]'(oC<|(KO p (l:=l)).length_le))=true)/\((h:(l.takeWhile p).length<l.length)->p l[(l.takeWhile p).length]=false)
 |[]=>⟨λi h=>by simp at h,λh=>by simp at h⟩
 |a::l=>by
  obtain⟨h1,h2⟩:=PV (p:=p) l;cases J:p a with
  |false=>simp[J]
  |true=>
   refine⟨λi h=>?_,λh=>?_⟩
   ·cases i with
    |zero=>exact J
    |succ i=>simp only[List.takeWhile_cons,J,dW,cd]at h;exact h1 i gf
   ·simp only[List.takeWhile_cons,J,dW,cd,List.getElem_cons_succ]at h ⊢;exact h2 gf
theorem Ox(h:i<kH m s):wq m s i=true/\16 * i+16<=s.length:=by have hl:=(KO (wq m s) (l:=List.range<|s.length / 16)).length_le;rw[Hi]at hl;have:=(PV (p:=wq m s) (List.range<|s.length / 16)).1 i h;rw[List.getElem_range]at this;unfold kH at h;exact⟨this,gf⟩
theorem aGy(m:UInt8)(s:al):s.length<16 * kH m s+16\/wq m s (kH m s)=false:=by
 by_cases h:kH m s<s.length / 16
 ·have:=(PV (p:=wq m s) (List.range (s.length / 16))).2<|by rw[Hi];exact h
  rw[List.getElem_range]at this;exact .inr this
 ·exact .inl gf
def VD:List cK:=[.aQ,.ah 0,.ah 0,.aQ,.aQ,.aQ,.ah 0,.ah 0,.aQ,.aQ,.aQ,.aQ,.aQ,.ah 0,.bW [false,true,true,true,true],.aQ,.aQ]
attribute [go_sem] VD
theorem aIY(s:al)(hs:s.length<=1073741824)(H:ab):aO prog 195 [.str s] H (Ep s):=by
 refine bg func195 ?_;by_cases h:s.length<4
 ·have hd:decide ((s.length:Int)<4)=true:=cS;have J:Ep s=.aN [.str [],.bool false]:=by unfold Ep B5;rw[aC h]
  rw[J];refine hH ?_;exact bJ<|.refl _
 ·have hd:decide ((s.length:Int)<4)=false:=dA;have hw:IntKind.i64.wrap ((s.length:Int)-4)=((s.length-4:Nat):Int):=by rw[bS];omega
  have h1:=Yz (s.take (s.length-4)) true nc;have h2:=W7<|uc (s.take (s.length-4));have J:Ep s=if decide (yJ (uc<|s.take (s.length-4))=s.drop (s.length-4))=true then .aN [.str (s.take<|s.length-4),.bool true]else .aN [.str [],.bool false]:=by unfold Ep B5;rw[ar h];by_cases aM:yJ (uc<|s.take (s.length-4))=s.drop (s.length-4)<;>simp[aM]
  rw[J];generalize yJ (uc<|s.take (s.length-4))=U at *;repeat' first|refine hH ?_|(refine bz ?_ ?_<;>intro h<;>try exact bx h)|fail
  ·rw[ar (oq h)];exact bJ<|.refl _
  ·rw[aC (oq h)];exact bJ<|.refl _
theorem aGz(s:al)(m:UInt8)(H:ab):aO prog 224 [.str s,.int .u8 m.toNat] H (.func (.func 255) [] [.cptr [.str s],.cptr [.int .u8 m.toNat]]):=by
 refine bg func224 ?_;refine a7 ?_;refine⟨_,_,rfl,?_,rfl⟩;refine .func _ _ _ _ _ rfl rfl fx (ds (DE gf mZ ?_)<|ds (DE gf mZ ?_) fx)
 ·simp only[dH,zM];exact .str _
 ·simp only[dH,zM];exact .int _ _
theorem aIZ{y:Nat}{H1:ab}(h:sJ prog y args H (λx H'=>x=v/\H'=H1))(hk:K v H1):Ek prog true (.func (.yield y) [] []) args H K:=
 ⟨v,H1,λ_=>h,λh=>(p2 h),hk⟩
theorem Xy{f:I}(hk:K v H):Ek prog false f args H K:=
 ⟨v,H,λh=>(p2 h),λ_=>rfl,hk⟩
theorem aGA{y:Nat}(hs:s.length<=1073741824)(J:Nat->ab)(R:ab->Prop)(A:Nat->Prop)(ay:A 0)(I:A (kH m s)->R (J<|kH m s))
  (qU:∀i,i<kH m s->A i->∃b S,sJ prog y [.str (sb s i)] (J i) (λw G=>w=.bool b/\G=S)/\(b=true->S=J (i+1)/\A (i+1))/\(b=false->R S)):
  cV prog 255 [.func (.yield y) [] [],.cptr [.str s],.cptr [.int .u8 m.toNat]] (J 0) (λ_ H'=>R H'):=by
 refine mS func255 ?_;have iy:=nB [(4,VD)];refine a7 ?_;refine c7 (ι:=Nat) (λi=>[(0,.func (.yield y) [] []),(1,.cptr [.str s]),(2,.cptr [.int .u8 m.toNat]),(4,.int .i64 (16 * i:Nat))]) (λi=>J i) (λi=>i<=kH m s/\A i) (λi=>kH m s-i) 0 ⟨cb _,ay⟩ ?_ rfl ?_
 ·simp[go_sem]
 rintro i ⟨hi,T⟩;have eu:kH m s<=s.length / 16:=by have:=(KO (wq m s) (l:=List.range<|s.length / 16)).length_le;rw[Hi]at this;exact this
 have hw:IntKind.i64.wrap (((16 * i:Nat):Int)+16)=((16 * i+16:Nat):Int):=by rw[bS];omega
 by_cases h1:16 * i+16<=s.length
 ·have hd:decide (((16 * i+16:Nat):Int)<=(s.length:Int))=true:=cS;have z:∀k,k<16->((s.drop (16 * i)).take 16).getD k 0=s.getD (16 * i+k) 0:=λk hk=>by
   simp only[gg,List.getElem?_take,List.getElem?_drop,aC hk]
  have ij:List.drop (16 * i) (List.take (16 * i+16) s)=(s.drop (16 * i)).take 16:=by rw[List.drop_take];congr 1;omega
  have ic:((s.drop (16 * i)).take 16).length=16:=nc;have ad:List.drop 1 (List.take 15<|(s.drop (16 * i)).take 16)=sb s i:=by unfold sb;rw[List.take_take,List.drop_take,ym];rfl
  have V:=z 0 gf;have U:=z 15 gf;generalize(s.drop (16 * i)).take 16=C at *;by_cases h2:i<kH m s
  ·obtain⟨Z, -⟩:=Ox h2;obtain⟨b,S,aJ,e9,hz⟩:=qU i h2 T;unfold wq at Z;simp only[dp,iK]at Z;rw[Z.2]at U;rw[wU,Z.1]at V;refine hH ?_;refine aIZ aJ ?_;cases b with
   |true=>obtain⟨rfl,mW⟩:=e9 rfl;simp only[go_sem];refine hH ?_;exact⟨i+1,⟨h2,mW⟩,gf,rfl,rfl⟩
   |false=>
    have aA:=hz rfl;simp only[go_sem];repeat' first|(refine ae ?_;simp only[go_sem,hw])|refine ai ?_|fail
    exact aA
  ·obtain rfl:i=kH m s:=gf;have he:=(aGy m s).resolve_left gf;unfold wq at he;have O:∀a b:UInt8,a≠b->decide ((a.toNat:Int)=(b.toNat:Int))=false:=λa b h=>b0 λe=>h<|UInt8.toNat_inj.1 gf
   rw[wU]at V;by_cases h3:s.getD (16 * kH m s) 0=m
   ·rw[h3]at V he;have h4:s.getD (16 * kH m s+15) 0≠m:=oq he;have d4:=O _ _ h4;rw[<-U]at d4;refine hH ?_;refine Xy (v:=.bool true) ?_;simp only[go_sem];repeat' first|(refine ae ?_;simp only[go_sem])|refine ai ?_|fail
    exact I T
   ·have d4:=O _ _ h3;rw[<-V]at d4;refine hH ?_;refine Xy (v:=.bool true) ?_;simp only[go_sem];repeat' first|(refine ae ?_;simp only[go_sem])|refine ai ?_|fail
    exact I T
 ·have hd:decide (((16 * i+16:Nat):Int)<=(s.length:Int))=false:=dA;obtain rfl:i=kH m s:=by
   rcases BJ i (kH m s)with h|h
   ·have:=(Ox h).2;omega
   ·omega
  repeat' first|(refine ae ?_;simp only[go_sem,hw,hd])|refine ai ?_|fail
  exact I T
def si(s:al)(i:Nat):al:=(List.range i).flatMap<|sb s
def zY(m:UInt8)(s:al):Option Nat:=
 if 0<kH m s then(dS (sb s 0)).bind fun(n,r)=>if(s.length:Int)<n then none else some (14-r.length+n.toNat)else none
def wy(s:al)(m:UInt8):al:=match zY m s with
 |none=>[]
 |some k=>if(k+13) / 14<=kH m s then si s ((k+13) / 14)else[]
def LJ:bD->bD
 |.loop l α N _ _ ps a b=>.loop l α N .done (some<|.exit 0) ps a b
 |x=>x
theorem VS(h:i<kH m s):(sb s i).length=14:=by have:=(Ox h).2;unfold sb;simp;omega
theorem N3{m:UInt8}{s:al}:∀{i:Nat},i<=kH m s->(si s i).length=14 * i
 |0,_=>rfl
 |i+1,h=>by have h1:=N3 (m:=m) (s:=s) (i:=i) gf;have h2:=VS (m:=m) (s:=s) (i:=i) gf;unfold si at *;rw[BG,qx,bw,h1];simp[h2];omega
theorem aFg(s:al)(i:Nat):si s (i+1)=si s i++sb s i:=by unfold si;rw[BG,qx];simp
theorem aIk(s:al)(m:UInt8)(hs:s.length<=1073741824)(H:ab):aO prog 194 [.str s,.int .u8 m.toNat] H (.str<|wy s m):=by
 refine bg func194 ?_;have hm:=aGz s m;repeat' first|((first|refine cI (hm _) ?_|refine ae ?_);simp only[go_sem])|refine ai ?_|fail
 refine uM (v:=0) (cs:=[.sl true []]) (H.length+1) 0 1 mZ rfl ?_;simp only[go_sem];refine H2 [(2,.ref H.length 0 0),(5,.ref (H.length+1) 0 0),(6,.ref (H.length+2) 0 0),(13,.func (.func 255) [] [.cptr [.str s],.cptr [.int .u8 m.toNat]])] (by simp[go_sem]) ?_
 refine J7 rfl aI λy dJ lG=>?_;obtain⟨V,qZ⟩:∃V:Nat,V=(zY m s).getD 0:=⟨_,rfl⟩;obtain⟨T,Z⟩:∃T:Nat->Nat->bD->ab,∀i dg L,T i dg L=H++[.cells 0 [.str s],.cells 0 [.osl 1 (H.length+3) (i+1) 0 (14 * i) (14 * i)],.cells 0 [.int .i64 dg],.cells (i+1)<|ck (si s i),L]:=⟨_,λ_ _ _=>rfl⟩;have aBy:(H++[bD.cells 0 [.str s],.cells 0 [.osl 1 (H.length+3) 1 0 0 0],.cells 0 [.int .i64 0],.cells 1 []]).length=H.length+4:=hW;have ay:(H++[bD.cells 0 [.str s],.cells 0 [.osl 1 (H.length+3) 1 0 0 0],.cells 0 [.int .i64 0],.cells 1 []])++[dJ]=T 0 0 dJ:=by rw[Z];simp[si,ck]
 rw[ay,aBy];refine(aGA (m:=m) hs (λi=>T i (if i=0 then 0 else V) dJ) (λG=>∃i dg,i<=kH m s/\(if dg=0\/14 * i<dg then[]else si s i)=wy s m/\(G=T i dg dJ\/G=T i dg (LJ dJ))) (λi=>i=0\/(zY m s=some V/\14 * i<V)) (.inl rfl) ?_ ?_).mono λ_ G e=>?_
 ·intro cc;refine⟨kH m s,if kH m s=0 then 0 else V,bh _,?_,.inl rfl⟩
  rcases cc with h|⟨h1,h2⟩
  ·rw[aC h,aC<|.inl rfl];unfold wy zY;rw[ar gf]
  ·rw[aC (by split<;>omega)]
   unfold wy;rw[h1];simp only;rw[ar gf]
 ·intro i hi cc;have dL:=VS hi;have aPr:=(Ox hi).2;have z:=N3 (m:=m) (s:=s) (i:=i) gf;have FD:=aFg s i;obtain⟨O,oL⟩:∃O:Nat,(if i=0 then 0 else V)=O:=⟨_,rfl⟩
  rw[oL];have Jt:=xR (sb s i) gf;have round:∀(b:Bool) (dg:Nat),(if O=0 then(match dS (sb s i)with|none=>(false,0)|some (n,r)=>if(s.length:Int)<n then(false,0)else(decide (14 * i+14<14-r.length+n.toNat),14-r.length+n.toNat))else(decide (14 * i+14<O),O))=(b,dg)->
    sJ prog y [.str (sb s i)] (T i O dJ) (λw G=>w=.bool b/\G=T (i+1) dg (if b=true then dJ else LJ dJ)):=λb dg U=>by
   refine KL (i:=H.length+4) (by rw[Z];simp only[go_sem]) lG rfl rfl rfl rfl λjF fin Cx xE gO jg=>?_
   simp only[w8];refine uu rfl ?_;rw[Z];generalize sb s i=P at *;simp only[go_sem];have iA:((14 * i+14) * 1<=140737488355328)=True:=b1 gf;have AS:∀b:Bool,fin b (if b=true then none else some (.exit 0))=if b=true then dJ else LJ dJ:=λb=>by
    cases b with
    |true=>exact gO
    |false=>rw[ar nofun,ar nofun,jg,lG];rfl
   have tail:∀(b:Bool) (dg:Nat) (G:ab),G=H++[.cells 0 [.str s],.cells 0 [.osl 1 (H.length+3) (i+2) 0 (14 * i+14) (14 * i+14)],.cells 0 [.int .i64 dg],.cells (i+2)<|ck (si s i)++ck P,jF]->
     wD (H.length+4) jF fin (H++[.cells 0 [.str s],.cells 0 [.osl 1 (H.length+3) (i+1) 0 (14 * i) (14 * i)],.cells 0 [.int .i64 O],.cells (i+1)<|ck (si s i),jF]) (λw G=>w=.bool b/\G=T (i+1) dg (if b=true then dJ else LJ dJ)) b (if b=true then none else some (.exit 0)) G:=λb dg G e=>by
    refine⟨by rw[e];simp only[go_sem],G,[],hW,by rw[e];simp,?_,rfl,?_⟩
    ·rw[e];exact Wl λk b hk=>match k,hk with
      |0,h=>.inl h
      |1,h=>.inr (by cases h;intro x J;rw[dH.1 J];exact .osl _ _ _ _ _ _ hW)
      |2,h=>.inr (by cases h;intro x J;rw[dH.1 J];exact .int _ _)
      |3,h=>.inr (by cases h;rw[<-wE];exact Ql _ _ _)
      |4,h=>.inl h
      |(k+5),h=>p2 h
    ·rw[AS,Z,FD,wE,e];simp only[go_sem,Nat.mul_add]
   by_cases a1:O=0
   ·subst a1;rw[aC rfl]at U;unfold sd at Jt;cases I:dS P with
    |none=>
     rw[I]at Jt U;simp only at Jt U;cases U;repeat' first|(refine ae ?_;simp only[go_sem,z,dL,iA])|refine ai ?_|fail
     exact tail false 0 _ rfl
    |some q=>
     obtain⟨n,r⟩:=q;rw[I]at Jt U;simp only at Jt U;have aw:=hg I;obtain⟨uC,zb⟩:=Up _ _ _ _ _ (jU 0) I;by_cases af:(s.length:Int)<n
     ·rw[aC af]at U;cases U;have hd:decide ((s.length:Int)<n)=true:=dr af;repeat' first|(refine ae ?_;simp only[go_sem,z,dL,iA,hd])|refine ai ?_|fail
      exact tail false 0 _ rfl
     ·rw[ar af]at U;have hd:decide ((s.length:Int)<n)=false:=b0 af;obtain⟨v,rfl⟩:∃v:Nat,n=v:=⟨n.toNat,gf⟩;have dw:IntKind.i64.wrap (((14:Nat):Int)-(r.length:Int))=((14-r.length:Nat):Int):=by rw[bS];omega
      have dQ:IntKind.i64.wrap (((14-r.length:Nat):Int)+(v:Int))=((14-r.length+v:Nat):Int):=by rw[bS];omega
      simp only[h5]at U;obtain⟨K,aOC⟩:∃K,14-r.length+v=K:=⟨_,rfl⟩;simp only[aOC]at U dQ;by_cases bL:14 * i+14<K
      ·have ew:decide ((K:Int)<=((14 * i+14:Nat):Int))=false:=dA;rw[dr bL]at U;cases U;repeat' first|(refine ae ?_;simp only[go_sem,z,dL,iA,hd,dw,dQ,ew])|refine ai ?_|fail
       exact tail true _ _ rfl
      ·have ew:decide ((K:Int)<=((14 * i+14:Nat):Int))=true:=cS;rw[b0 bL]at U;cases U;repeat' first|(refine ae ?_;simp only[go_sem,z,dL,iA,hd,dw,dQ,ew])|refine ai ?_|fail
       exact tail false _ _ rfl
   ·rw[ar a1]at U;have gl:decide ((O:Int)=0)=false:=dA;by_cases bL:14 * i+14<O
    ·have ew:decide ((O:Int)<=((14 * i+14:Nat):Int))=false:=dA;rw[dr bL]at U;cases U;repeat' first|(refine ae ?_;simp only[go_sem,z,dL,iA,gl,ew])|refine ai ?_|fail
     exact tail true _ _ rfl
    ·have ew:decide ((O:Int)<=((14 * i+14:Nat):Int))=true:=cS;rw[b0 bL]at U;cases U;repeat' first|(refine ae ?_;simp only[go_sem,z,dL,iA,gl,ew])|refine ai ?_|fail
     exact tail false _ _ rfl
  have uE:∀k,14 * i<k->k<=14 * i+14->zY m s=some k->wy s m=si s (i+1):=λk h1 h2 h3=>by unfold wy;rw[h3];simp only;rw[show(k+13) / 14=i+1 by omega,aC gf]
  obtain⟨⟨b,dg⟩,S⟩:∃q,(if O=0 then(match dS (sb s i)with|none=>(false,0)|some (n,r)=>if(s.length:Int)<n then(false,0)else(decide (14 * i+14<14-r.length+n.toNat),14-r.length+n.toNat))else(decide (14 * i+14<O),O))=q:=⟨_,rfl⟩
  have key:(dg=0/\b=false/\zY m s=none)\/(14 * i<dg/\zY m s=some dg/\b=decide (14 * i+14<dg)):=by
   by_cases I8:i=0
   ·subst I8;rw[aC rfl]at oL;subst oL;rw[aC rfl]at S;unfold zY;rw[aC gf];cases I:dS (sb s 0)with
    |none=>rw[I]at S;cases S;exact .inl ⟨rfl,rfl,rfl⟩
    |some q=>
     obtain⟨n,r⟩:=q;rw[I]at S;simp only[e6]at S ⊢;have aw:=hg I;split at S
     ·rename_i h;cases S;rw[aC h];exact .inl ⟨rfl,rfl,rfl⟩
     ·rename_i h;cases S;rw[ar h];exact .inr ⟨gf,rfl,rfl⟩
   ·obtain⟨cc,aOm⟩:=cc.resolve_left I8;rw[ar I8]at oL;subst oL;rw[ar gf]at S;cases S;exact .inr ⟨aOm,cc,rfl⟩
  refine⟨b,_,round b dg S,λU=>?_,λU=>?_⟩
  ·rcases key with⟨-,e, -⟩|⟨k1,k2,k3⟩
   ·rw[e]at U;cases U
   ·rw[U]at k3;have k4:=nI k3.symm;have hk:V=dg:=by rw[qZ,k2];rfl
    rw[aC U,ar gf,hk];exact⟨rfl,.inr ⟨k2,gf⟩⟩
  ·refine⟨i+1,dg,hi,?_,.inr<|by rw[U,ar nofun]⟩
   rcases key with⟨ax, -,aU⟩|⟨k1,k2,k3⟩
   ·rw[aC (.inl ax)];unfold wy;rw[aU]
   ·rw[U]at k3;have k4:=of_decide_eq_false k3.symm;rw[ar gf,uE dg k1 gf k2]
 ·obtain⟨i,dg,hi,aw,he⟩:=e;have z:=N3 (m:=m) (s:=s) hi;have aPr:i<=s.length:=by have:=(KO (wq m s) (l:=List.range<|s.length / 16)).length_le;rw[Hi]at this;unfold kH at hi;omega
  have ag:List.take (14 * i * 1) (ck<|si s i)=ck (si s i):=qy<|by rw[qO];omega
  have hl:(14 * i * 1<=14 * i)=True:=b1 gf;rcases he with he|he
  ·refine .inl ⟨.ready,hW,by rw[he,Z];simp only[go_sem];exact lG,λX=>?_⟩
   rw[he,Z];simp only[go_sem];repeat' first|refine hH ?_|(refine bz ?_ ?_<;>intro h<;>try exact bx h)|fail
   ·rw[<-aw,aC (by simp at h;omega)]
    exact aX<|.refl _
   ·rw[<-aw,ar (by simp at h;omega)]
    exact aX<|.refl _
  ·refine .inr<|.inr ⟨0,by rw[he,Z];simp only[go_sem];rw[lG];rfl,λX=>?_⟩
   rw[he,Z];simp only[go_sem];repeat' first|refine hH ?_|(refine bz ?_ ?_<;>intro h<;>try exact bx h)|fail
   ·rw[<-aw,aC (by simp at h;omega)]
    exact aX<|.refl _
   ·rw[<-aw,ar (by simp at h;omega)]
    exact aX<|.refl _
def rr(s:al)(n:Int):Option (al×Nat):=
 if n<1\/1000000<n then none else
 (ix (wy s<|zB n.toNat)).bind fun(c,_)=>(B5 c).bind λb=>(dS b).bind fun(_,aW)=>(ix aW).bind fun(p,_)=>if(hE n p).2=0/\wF (hE n p).1 s=true then some (p,(hE n p).1.length / 16)else none
def L4(s:al)(n:Int):I:=match rr s n with
 |none=>.aN [.str [],.int .i64 0,.bool false]
 |some (p,k)=>.aN [.str p,.int .i64 k,.bool true]
def nf:Nat->al->Int->List al×Nat
 |0,_,_=>([],0)
 |f+1,s,n=>match rr s n with
  |none=>([],0)
  |some (p,k)=>(p::(nf f (s.drop<|16 * k) (n+1)).1,k+(nf f (s.drop<|16 * k) (n+1)).2)
def qt(s:al)(n:Int):List al×Nat:=nf s.length s n
theorem Xf:∀l:List al,(l.map I.str).flatMap I.cells=l.map I.str
 |[]=>rfl
 |a::l=>by rw[dO,nj,Xf l];rfl
theorem aFh(s:al)(m:UInt8):(wy s m).length<=s.length:=by
 unfold wy;split
 ·simp
 ·split
  ·rename_i h;rw[N3 h];have:=(KO (wq m s) (l:=List.range<|s.length / 16)).length_le;rw[Hi]at this;unfold kH at h;omega
  ·simp
theorem aGB{t:al}(h:B5 s=some t):t.length<=s.length:=by
 unfold B5 at h;split at h
 ·cases h
 ·split at h
  ·cases h;simp
  ·cases h
theorem aGC(n:Int)(p:al)(h:(hE n p).2=0):(hE n p).1.length=16 * ((hE n p).1.length / 16)/\1<=(hE n p).1.length / 16:=by
 have ad:=VR n p h;have hl:=nH.2 ad;unfold hE at h hl ⊢;split at h
 ·simp at h
 ·rename_i J;rw[ar J]at hl ⊢;simp only at hl ⊢;have U:(wJ n.toNat p).length=16 * (wx (qg n.toNat p)).length:=by unfold wJ;exact Db _ _<|Gs _ _ (bh _)
  omega
theorem Dp(h:rr s n=some (p,k)):1<=k/\16 * k<=s.length/\1<=n/\n<=1000000/\(hE n p).2=0/\p.length<=40000:=by
 unfold rr at h;split at h
 ·cases h
 ·rename_i af;simp only[kv]at h;obtain⟨⟨c,O⟩,h1,b,h2,⟨v,aW⟩,h3,⟨q,S⟩,h4,h⟩:=h;simp only at h;split at h
  ·rename_i J;cases h;obtain⟨ax,U⟩:=aGC n p J.1;have aU:=J.2;unfold wF at aU;simp only[dp,iK]at aU;refine⟨U,gf,gf,gf,J.1,?_⟩;have:=J.1;unfold hE at this;split at this
   ·simp at this
   ·omega
  ·cases h
theorem aGD:∀(f g:Nat) (s:al) (n:Int),s.length<=f->s.length<=g->nf f s n=nf g s n:=by
 intro f;induction f with
 |zero=>
  intro g s n h _;have hs:s=[]:=iL gf;subst hs;cases g with
  |zero=>rfl
  |succ g=>
   rw[nf,nf];cases ag:rr [] n with
   |none=>rfl
   |some q=>have:=Dp (p:=q.1) (k:=q.2) ag;simp at this;omega
 |succ f J=>
  intro g s n h O;rw[nf];cases ag:rr s n with
  |none=>
   cases g with
   |zero=>rfl
   |succ g=>rw[nf,ag]
  |some q=>obtain⟨p,k⟩:=q;have hk:=Dp ag;obtain⟨g,rfl⟩:∃U,g=U+1:=⟨g-1,gf⟩;rw[nf,ag];simp only;rw[J g (s.drop<|16 * k) (n+1) nc nc]
theorem aGE(h:rr s n=none):qt s n=([],0):=by
 unfold qt;cases hl:s.length with
 |zero=>rfl
 |succ k=>rw[nf,h]
theorem aGF(h:rr s n=some (p,k)):qt s n=(p::(qt (s.drop<|16 * k) (n+1)).1,k+(qt (s.drop<|16 * k) (n+1)).2):=by have hk:=Dp h;unfold qt;obtain⟨g,J⟩:∃g,s.length=g+1:=⟨s.length-1,gf⟩;rw[J,nf,h];simp only;rw[aGD g (s.drop<|16 * k).length (s.drop<|16 * k) (n+1) nc (bh _)]
theorem Xz(s:al)(n:Int)(hs:s.length<=1073741824)(H:ab):aO prog 155 [.str s,.int .i64 n] H (L4 s n):=by
 refine bg func155 ?_;unfold L4 rr;by_cases S:n<1\/1000000<n
 ·have J:(decide (n<1)||decide (1000000<n))=true:=nc
  rw[aC S];refine hH ?_;all_goals first|exact bJ (.refl _)|(exfalso;simp at *;omega)
 have J:(decide (n<1)||decide (1000000<n))=false:=nc
 rw[ar S];obtain⟨m,rfl⟩:∃m:Nat,n=m:=⟨n.toNat,gf⟩;have R8:=X1 m gf;have hw:=aIk s (zB m) hs;have uH:=aFh s<|zB m;rw[h5];generalize zB m=mk at *;generalize wy s mk=W at *;have h1:=zj W gf
 unfold wG at h1;cases ax:ix W with
 |none=>
  rw[ax]at h1;simp only at h1;repeat' first|((first|refine cI (hw _) ?_|refine ae ?_);simp only[go_sem,J])|refine ai ?_|fail
  exact bJ<|.refl _
 |some z=>
 obtain⟨c,aS⟩:=z;rw[ax]at h1;simp only[e6]at h1 ⊢;have cm:=vG ax;have h2:=aIY c gf;unfold Ep at h2;cases O:B5 c with
 |none=>
  rw[O]at h2;simp only at h2;repeat' first|((first|refine cI (hw _) ?_|refine ae ?_);simp only[go_sem,J])|refine ai ?_|fail
  exact bJ<|.refl _
 |some b=>
 rw[O]at h2;simp only[e6]at h2 ⊢;have cT:=aGB O;have h3:=xR b gf;unfold sd at h3;cases aU:dS b with
 |none=>
  rw[aU]at h3;simp only at h3;repeat' first|((first|refine cI (hw _) ?_|refine ae ?_);simp only[go_sem,J])|refine ai ?_|fail
  exact bJ<|.refl _
 |some bC=>
 obtain⟨v,aW⟩:=bC;rw[aU]at h3;simp only[e6]at h3 ⊢;have j3:=hg aU;have h4:=zj aW gf;unfold wG at h4;cases bf:ix aW with
 |none=>
  rw[bf]at h4;simp only at h4;repeat' first|((first|refine cI (hw _) ?_|refine ae ?_);simp only[go_sem,J])|refine ai ?_|fail
  exact bJ<|.refl _
 |some cD=>
 obtain⟨p,bb⟩:=cD;rw[bf]at h4;simp only[e6]at h4 ⊢;have tq:=vG bf;have V:=Li m p gf;have U:=Zj s (hE m p).1;have Z:=Uy m p;obtain⟨q,aM⟩:∃q,hE (m:Int) p=q:=⟨_,rfl⟩;rw[aM]at V U Z ⊢;obtain⟨T,e⟩:=q;simp only at V U Z ⊢;have Fz:IntKind.i64.wrap ((T.length:Int).tdiv 16)=((T.length / 16:Nat):Int):=by rw[zG gf,bS];omega
 by_cases he:e=0
 ·subst he;cases I:wF T s with
  |false=>
   rw[I]at U;rw[ar hW];repeat' first|((first|refine cI (hw _) ?_|refine ae ?_);simp only[go_sem,J])|refine ai ?_|fail
   exact bJ<|.refl _
  |true=>
   rw[I]at U;rw[aC ⟨rfl,rfl⟩];repeat' first|((first|refine cI (hw _) ?_|refine ae ?_);simp only[go_sem,J,Fz])|refine ai ?_|fail
   exact bJ<|.refl _
 ·have hd:decide (e=0)=false:=b0 he;rw[ar (λh=>he h.1)];repeat' first|((first|refine cI (hw _) ?_|refine ae ?_);simp only[go_sem,J,hd])|refine ai ?_|fail
  exact bJ<|.refl _
theorem aKL(s:al)(n:Int)(hs:s.length<=1073741824)(af:0<=n/\n<=1000001)(H:ab):aO prog 106 [.str s,.int .i64 n] H (.aN [.sl false ((qt s n).1.map I.str),.int .i64 (qt s n).2]):=by
 refine bg func106 ?_;refine hH ?_;refine xU 6 1 rfl ?_;obtain⟨Z,O⟩:∃Z,qt s n=Z:=⟨_,rfl⟩;rw[O];refine c7 (ι:=List al×Nat×ab) (λx=>[(0,.str s),(1,.int .i64<|n+x.1.length),(6,.osl 1 H.length (x.1.length+1) 0 x.1.length x.1.length),(7,.int .i64 x.2.1)]) (λx=>H++(.cells (x.1.length+1) (x.1.map I.str)::x.2.2))
  (λx=>16 * x.2.1<=s.length/\x.1.length<=x.2.1/\n+x.1.length<=1000001/\Z=(x.1++(qt (s.drop<|16 * x.2.1) (n+x.1.length)).1,x.2.1+(qt (s.drop<|16 * x.2.1) (n+x.1.length)).2)) (λx=>s.length-16 * x.2.1) ([],0,[]) ⟨hW,hW,oq af.2,by simp[<-O]⟩ ?_ rfl ?_
 ·simp[go_sem]
 rintro⟨l,c,M⟩ ⟨h1,h2,h3,h4⟩;simp only at h1 h2 h3 h4 ⊢;obtain⟨G,a7⟩:∃G,H++(.cells (l.length+1) (l.map I.str)::M)=G:=⟨_,rfl⟩;rw[a7];have g0:az G H.length=.cells (l.length+1) (l.map I.str):=by rw[<-a7];simp only[go_sem]
 have g1:=bE g0 trivial;have g2:=hU g0 trivial;have gs:∀X,an G H.length X=H++(X::M):=λX=>by rw[<-a7];simp only[go_sem]
 have S:IntKind.i64.wrap ((c:Int) * 16)=((16 * c:Nat):Int):=by rw[bS];omega
 have ag:=Xz (s.drop (16 * c)) (n+l.length) nc;unfold L4 at ag;have T:((0:Int)<=((16 * c:Nat):Int)/\((16 * c:Nat):Int)<=(s.length:Int))=True:=b1 ⟨gf,gf⟩;cases U:rr (s.drop<|16 * c) (n+l.length)with
 |none=>rw[U]at ag;rw[aGE U]at h4;simp only[cE,wU]at h4;subst h4;simp only at ag ⊢;refine hH ?_;refine⟨_,.aN [.sl false (l.map I.str),.int .i64 c],a7.symm,.aN _ _ rfl<|ds ?_ (ds (.cl _ (.int _ _)) fx),rfl⟩;exact q8 (es:=l.map I.str) (rest:=[]) (bh _) g0 (by rw[cE,Xf]) hW (λe he=>by obtain⟨y, -,rfl⟩:=bP.1 he;rfl) (λe he=>by obtain⟨y, -,rfl⟩:=bP.1 he;simp only[go_sem])
 |some q=>
  obtain⟨p,k⟩:=q;rw[U]at ag;rw[aGF U]at h4;obtain⟨k1,k2,k3,k4,gQ,re⟩:=Dp U;simp only[hp]at k2;simp only at ag;have J:(∀e:I,e=I.str p->e.cells.length=1)=True:=b1 λe h=>by rw[h];rfl
  have V:((l.length+1) * 16<=140737488355328)=True:=b1 gf;have z:IntKind.i64.wrap ((c:Int)+(k:Int))=((c+k:Nat):Int):=by rw[bS];omega
  have q6:IntKind.i64.wrap (n+(l.length:Int)+1)=n+((l.length+1:Nat):Int):=by rw[bS];omega
  repeat' first|(refine ae ?_;simp only[go_sem,S,T,h1,J,V,g0,g1,g2,z,q6])|refine ai ?_|fail
  refine⟨(l++[p],c+k,M),⟨by simp only;omega,by simp only[bw,cd,dZ];omega,by simp only[bw,cd,dZ];omega,?_⟩,by simp only;omega,⟨hW,hW,rfl⟩,by rw[gs];simp⟩
  rw[h4,ym,show 16 * c+16 * k=16 * (c+k) by omega]
  simp[vh,Int.add_assoc]
def Bw(s:al)(q:Int):Option (Int×al):=
 (rr s q).bind fun(t,_)=>(dS t).bind fun(b,r)=>if b<1\/1000001<b then none else(ix r).bind fun(x,aY)=>if aY=[]then some (b,x)else none
def TO(s:al)(q:Int):I:=match Bw s q with
 |none=>.aN [.int .i64 0,.str [],.bool false]
 |some (b,x)=>.aN [.int .i64 b,.str x,.bool true]
def sj(s:al)(i k:Nat):Option (Nat×Int×al):=if(k+1) % 2=i then(Bw s (k+1:Nat)).map (k+1,·)else none
def Eh(s:al)(i:Nat):Option (Nat×Int×al):=(List.range 200).findSome? (sj s i)
def Er(x:Nat×Int×al):Option (Nat×Int×al)->Nat×Int×al
 |none=>x
 |some y=>if x.1<y.1 then y else x
def yg(d:gh)(i:Nat):al:=l5 d (hV d.size.toNat i)<|bY d.size.toNat
def mD(d:gh):Nat->Nat×Int×al
 |0=>(0,0,[])
 |i+1=>Er (mD d i)<|Eh (yg d i) i
theorem aIl{x:al}{q b:Int}(h:Bw s q=some (b,x)):1<=b/\b<=1000001/\x.length<=40000/\1<=q/\q<=1000000:=by
 unfold Bw at h;simp only[kv]at h;obtain⟨⟨t,k⟩,h1,⟨v,r⟩,h2,h⟩:=h;obtain⟨-, -,g1,g2, -,h3⟩:=Dp h1;have h4:=hg h2;simp only at h h4;split at h
 ·cases h
 ·simp only[kv]at h;obtain⟨⟨y,O⟩,J,h⟩:=h;have U:=vG J;simp only at h U;split at h
  ·cases h;exact⟨gf,gf,gf,g1,g2⟩
  ·cases h
theorem aFi{y:Nat×Int×al}(h:sj s i k=some y):y.1=k+1/\(k+1) % 2=i/\1<=y.2.1/\y.2.1<=1000001/\y.2.2.length<=40000:=by
 unfold sj at h;split at h
 ·rename_i h1;rw[gA]at h;obtain⟨⟨b,x⟩,h2,rfl⟩:=h;have:=aIl h2;exact⟨rfl,h1,this.1,this.2.1,this.2.2.1⟩
 ·cases h
theorem aJX(s:al)(q:Int)(hs:s.length<=1073741824)(H:ab):aO prog 153 [.str s,.int .i64 q] H (TO s q):=by
 refine bg func153 ?_;unfold TO Bw;have h1:=Xz s q hs;unfold L4 at h1;cases ax:rr s q with
 |none=>
  rw[ax]at h1;simp only at h1;repeat' first|(refine ae ?_;simp only[go_sem])|refine ai ?_|fail
  exact bJ<|.refl _
 |some T=>
 obtain⟨t,k⟩:=T;rw[ax]at h1;have z:=(Dp ax).2.2.2.2.2;simp only[e6]at h1 ⊢;have h2:=xR t gf;unfold sd at h2;cases U:dS t with
 |none=>
  rw[U]at h2;simp only at h2;repeat' first|(refine ae ?_;simp only[go_sem])|refine ai ?_|fail
  exact bJ<|.refl _
 |some V=>
 obtain⟨b,r⟩:=V;rw[U]at h2;have cT:=hg U;simp only[e6]at h2 ⊢;by_cases S:b<1\/1000001<b
 ·have Z:(decide (b<1)||decide (1000001<b))=true:=nc
  rw[aC S];refine hH ?_;all_goals first|exact bJ (.refl _)|(exfalso;simp at *;omega)
 have Z:(decide (b<1)||decide (1000001<b))=false:=nc
 rw[ar S];have h3:=zj r gf;unfold wG at h3;cases aU:ix r with
 |none=>rw[aU]at h3;simp only at h3;refine hH ?_;exact bJ<|.refl _
 |some I=>
 obtain⟨x,O⟩:=I;rw[aU]at h3;simp only[e6]at h3 ⊢;by_cases J:O=[]
 ·have hd:decide (O=[])=true:=dr J;rw[aC J];refine hH ?_;exact bJ<|.refl _
 ·have hd:decide (O=[])=false:=b0 J;rw[ar J];refine hH ?_;exact bJ<|.refl _
theorem aKM(f:Bool)(hk:fI d)(H:ab):aO prog 104 [ha f d] H (.aN [.int .i64 (mD d 2).1,.int .i64 (mD d 2).2.1,.str (mD d 2).2.2]):=by
 refine bg func104 ?_;have hsz:=hk.size;obtain⟨z,a1⟩:∃z:Nat,d.size=z:=⟨d.size.toNat,gf⟩;have hJ:∀i,yg d i=l5 d (hV z i) (bY z):=λi=>by unfold yg;rw[show d.size.toNat=z by omega]
 obtain⟨X,Z⟩:∃X,mD d=X:=⟨_,rfl⟩;rw[Z];unfold ha;repeat' first|(refine ae ?_;simp only[go_sem])|refine bp ?_|fail
 refine c7 (ι:=Nat) (λi=>[(1,.ref H.length 0 0),(5,.int .i64 (X i).1),(6,.int .i64 (X i).2.1),(7,.str (X i).2.2),(15,.int .i64 i)]) (λ_=>H++[.cells 0 [.int .i64 d.size,.str d.jJ,.sl f<|d.loose.map fa]]) (λi=>i<=2) (λi=>2-i) 0 gf ?_ rfl ?_
 ·simp[go_sem,<-Z,mD]
 intro i hi;by_cases I:i<2
 ·have bl:decide ((i:Int)<2)=true:=cS;have aYJ:IntKind.i64.wrap ((i:Int)+1)=((i+1:Nat):Int):=by rw[bS];omega
  have ij:=GY z gf;have oN:=Lj z i gf gf;have aYF:hV z i+bY z<=z:=by unfold hV bY;split<;>omega
  have T:=Xc f hk (hV z i) (bY z) gf gf;have Sm:B3 d (hV z i) (bY z)=(yg d i,0):=by unfold B3;rw[ar gf,h5,h5,hJ]
  rw[Sm]at T;rw[<-a1]at ij oN;have mB:(yg d i).length<=1048576:=by rw[hJ,Gt hk _ _ gf];omega
  have J:X (i+1)=Er (X i) (Eh (yg d i) i):=by rw[<-Z];rfl
  unfold ha at T;unfold Eh at J;generalize yg d i=S at *;simp only at T;repeat' first|((first|refine cI (oN _) ?_|refine cI (T _ _) ?_|refine ae ?_);simp only[go_sem,bl])|refine ai ?_|fail
  refine c7 (ι:=Nat) (λq=>[(1,.ref H.length 0 0),(5,.int .i64 (X i).1),(6,.int .i64 (X i).2.1),(7,.str (X i).2.2),(8,.int .i64 i),(9,.str S),(11,.int .i64 (q+1:Nat)),(15,.int .i64 i)]) (λ_=>H++[.cells 0 [.int .i64 d.size,.str d.jJ,.sl f<|d.loose.map fa]])
   (λq=>q<=200/\(List.range q).findSome? (sj S i)=none) (λq=>200-q) 0 ⟨gf,rfl⟩ ?_ rfl ?_
  ·simp[go_sem]
  rintro q ⟨aM,c9⟩;by_cases jO:q<200
  ·have ie:decide (((q+1:Nat):Int)<=200)=true:=cS;have aYK:IntKind.i64.wrap (((q+1:Nat):Int)+1)=((q+1+1:Nat):Int):=by rw[bS];omega
   have CQ:(((q+1:Nat):Int)).tmod 2=(((q+1) % 2:Nat):Int):=by rw[wR gf];omega
   have q1:IntKind.i64.wrap (((q+1) % 2:Nat):Int)=(((q+1) % 2:Nat):Int):=bS;have U:(List.range (q+1)).findSome? (sj S i)=sj S i q:=by rw[BG,List.findSome?_append,c9];simp
   have V:∀y,sj S i q=some y->(List.range 200).findSome? (sj S i)=some y:=λy aJ=>by rw[show 200=(q+1)+(199-q) by omega,List.range_add,List.findSome?_append,U,aJ];rfl
   by_cases v8:(q+1) % 2=i
   ·have aO7:decide ((((q+1) % 2:Nat):Int)=(i:Int))=true:=cS;have O:=aJX S (q+1:Nat) gf;unfold TO at O;unfold sj at U V;rw[aC v8]at U V;cases ik:Bw S (q+1:Nat)with
    |none=>rw[ik]at O U;simp only at O;refine hH ?_;exact⟨q+1,⟨jO,by unfold sj;exact U⟩,gf,rfl⟩
    |some y=>
     obtain⟨b,x⟩:=y;rw[ik]at O V;simp only at O;have aOY:=V (q+1,b,x) rfl;unfold sj at J;rw[aOY]at J;unfold Er at J;simp only at J;by_cases MR:(X i).1<q+1
     ·have aO8:decide (((X i).1:Int)<((q+1:Nat):Int))=true:=cS;rw[aC MR]at J;refine hH ?_;exact⟨i+1,I,gf,by rw[J],by rw[J],by rw[J],rfl⟩
     ·have aO8:decide (((X i).1:Int)<((q+1:Nat):Int))=false:=dA;rw[ar MR]at J;refine hH ?_;exact⟨i+1,I,gf,by rw[J],by rw[J],by rw[J],rfl⟩
   ·have aO7:decide ((((q+1) % 2:Nat):Int)=(i:Int))=false:=dA;unfold sj at U;rw[ar v8]at U;refine hH ?_;exact⟨q+1,⟨jO,by unfold sj;exact U⟩,gf,rfl⟩
  ·have ie:decide (((q+1:Nat):Int)<=200)=false:=dA;obtain rfl:q=200:=gf;rw[c9,show Er (X i) none=X i from rfl]at J
   refine hH ?_;exact⟨i+1,I,gf,by rw[J],by rw[J],by rw[J],rfl⟩
 ·have bl:decide ((i:Int)<2)=false:=dA;obtain rfl:i=2:=gf;refine hH ?_;exact aX<|.refl _
def j6(d:gh):cj×al×List al×Int:=
 let z:=d.size.toNat
 let x:=mD d 2
 if x.1=0 then(tN,[],[],140)else
 let r:=qt (l5 d (2 * bY z)<|z-2 * bY z) x.2.1
 let n:Int:=x.2.1+r.1.length
 let cU:cj:={bG:=d,seq:=x.1,base:=x.2.1,next:=n,end_:=(2 * bY z+r.2:Nat),eB:=n-1,kept:=n-1,waits:=[],iQ:=true,marked:=0,fP:=0,lg:=0}
 let c5:=(gi cU (2 * bY z+r.2) (fM<|(z-(2 * bY z+r.2)) * 16)).1
 ((gi c5 (hV z<|x.1+1) (fM<|bY z * 16)).1,x.2.2,r.1,0)
theorem Pa:∀(f:Nat) (s:al) (n:Int),16 * (nf f s n).2<=s.length/\(nf f s n).1.length<=(nf f s n).2/\(∀p∈(nf f s n).1,p.length<=40000)/\(n<=1000001->n+(nf f s n).1.length<=1000001):=by
 intro f;induction f with
 |zero=>intro s n;simp[nf]
 |succ f U=>
  intro s n;rw[nf];cases ag:rr s n with
  |none=>simp
  |some q=>
   obtain⟨p,k⟩:=q;obtain⟨k1,k2,k3,k4,S,O⟩:=Dp ag;obtain⟨h1,h2,h3,h4⟩:=U (s.drop (16 * k))<|n+1;simp only[hp]at h1;refine⟨by simp only;omega,by simp only[cd];omega,λx J=>?_,λ_=>by simp only[cd];have:=h4 gf;omega⟩
   rcases db.1 J with rfl|J
   ·exact O
   ·exact h3 x J
theorem Pb{w:cj}(h:fI w.bG)(a:Nat)(s:al)(J:w.bG.loose.length+dz s<=1000000):fI (gi w a s).1.bG:=by
 unfold gi;split
 ·exact Uv h a s J
 ·exact h
theorem Oy(d:gh):∀i,(mD d i).1<=200/\((mD d i).1≠0->1<=(mD d i).2.1/\(mD d i).2.1<=1000001)/\(mD d i).2.2.length<=40000
 |0=>by simp[mD]
 |i+1=>by
  have h:=Oy d i;rw[mD];cases J:Eh (yg d i) i with
  |none=>exact h
  |some y=>
   unfold Eh at J;obtain⟨k,hk,U⟩:=List.exists_of_findSome?_eq_some J;have hk:=Hf.1 hk;have:=aFi U;unfold Er;simp only;split
   ·exact⟨gf,λ_=>⟨this.2.2.1,this.2.2.2.1⟩,this.2.2.2.2⟩
   ·exact h
def T7:List cK:=[.aQ,.aQ,.aQ,.ah 0,.ah 0,.ah 0,.ah 0,.aQ,.aQ,.ah 0,.ah 0,.ah 0,.ah 0,.aQ,.ah 0,.ah 0,.ah 0,.bW [false,true,true,false,true,true,true],.ah 0,.ah 0,.ah 0,.bW [false,true,true]]
def T8:List cK:=[.aQ,.ah 0,.ah 0,.ah 0,.aQ,.ah 0,.ah 0,.ah 0,.ah 0,.ah 0,.ah 0,.aQ,.ah 0,.ah 0,.ah 0,.ah 0,.aQ,.ah 0,.bW [false,true,true,true,true,true,true,false,true,true,true,false,true,true]]
def T9:List cK:=[.aQ,.ah 0,.ah 0,.ah 0,.ah 0,.ah 0,.aQ,.aQ,.ah 0,.ah 0,.ah 0,.ah 0,.ah 0,.bW [false,true,true,true,false,true,true,false,true,true]]
attribute [go_sem] T7 T8 T9
def Qy(x:cj×al×List al×Int):I:=.aN [ei false false x.1,.str x.2.1,.sl false<|x.2.2.1.map I.str,.int .i64 x.2.2.2]
theorem YR(f g b:Bool)(w:cj)(t:al)(l:List al)(e:Int):eT (.aN [ei f g w,.str t,.sl b<|l.map I.str,.int .i64 e]) (Qy (w,t,l,e)):=
 .aN _ _ rfl (de (Ov f g w)<|de (.refl _) (de (.sl _ _) (de (.refl _) kZ)))
theorem aJY(f:Bool)(hk:fI d)(hl:d.loose.length<=100000)(H:ab):aO prog 57 [ha f d] H (Qy<|j6 d):=by
 refine bg func57 ?_;have hsz:=hk.size;obtain⟨z,a1⟩:∃z:Nat,d.size=z:=⟨d.size.toNat,gf⟩;have ao:=GX f hk;have aa:=aKM f hk;obtain⟨aW,bA,iv⟩:=Oy d 2;unfold j6;rw[show d.size.toNat=z by omega]
 generalize mD d 2=X at *;obtain⟨q,bs,st⟩:=X;simp only at aa aW bA iv ⊢;unfold ha at *;by_cases ay:q=0
 ·subst ay;rw[aC rfl];repeat' first|(refine ae ?_;simp only[go_sem])|refine ai ?_|fail
  exact aX<|YR true true true tN [] [] 140
 ·have RH:decide ((q:Int)=0)=false:=dA;rw[ar ay];obtain⟨iO,mr⟩:=bA ay;have Jy:bY z<=z / 4:=by unfold bY;omega
  have aj:=O6 z gf;have T:=Xc f hk (2 * bY z:Nat) (z-2 * bY z:Nat) gf gf;have Sm:B3 d (2 * bY z:Nat) (z-2 * bY z:Nat)=(l5 d (2 * bY z) (z-2 * bY z),0):=by unfold B3;rw[ar gf,h5,h5]
  rw[Sm]at T;have mB:=Gt hk (2 * bY z) (z-2 * bY z) gf;have dw:IntKind.i64.wrap (d.size-(2 * bY z:Nat))=((z-2 * bY z:Nat):Int):=by rw[bS];omega
  rw[<-a1]at aj;have A0:=aKL (l5 d (2 * bY z) (z-2 * bY z)) bs gf gf;obtain⟨aS,aY,a6,bb⟩:=Pa (l5 d (2 * bY z)<|z-2 * bY z).length (l5 d (2 * bY z)<|z-2 * bY z) bs;have dm:=bb mr;rw[show nf (l5 d (2 * bY z)<|z-2 * bY z).length (l5 d (2 * bY z)<|z-2 * bY z) bs=qt (l5 d (2 * bY z)<|z-2 * bY z) bs from rfl]at aS aY a6 dm
  clear bb;generalize qt (l5 d (2 * bY z)<|z-2 * bY z) bs=R at *;generalize l5 d (2 * bY z) (z-2 * bY z)=S at *;obtain⟨rs,c⟩:=R;simp only at T A0 aS aY a6 dm ⊢;have eG:=Wg f d.loose gf
  unfold ha at T;have dQ:IntKind.i64.wrap (bs+(rs.length:Int))=bs+(rs.length:Int):=bS;have q6:IntKind.i64.wrap (((2 * bY z:Nat):Int)+(c:Int))=((2 * bY z+c:Nat):Int):=by rw[bS];omega
  repeat' first|((first|refine cI (T _ _) ?_|refine cI (A0 _) ?_|refine ae ?_);simp only[go_sem,RH,dw,dQ,q6])|refine ai ?_|fail
  obtain⟨v0,A4⟩:∃v0:cj,v0={bG:=d,seq:=q,base:=bs,next:=bs+rs.length,end_:=(2 * bY z+c:Nat),eB:=0,kept:=0,waits:=[],iQ:=true,marked:=0,fP:=0,lg:=0}:=⟨_,rfl⟩
  have O:=λH=>GH false true v0 H;rw[A4]at O;refine c4 (O _) aI ?_;rintro v H' ⟨rfl,rfl⟩;simp only[go_sem,iG,Oh];have SC:IntKind.i64.wrap (bs+(rs.length:Int)-1)=bs+(rs.length:Int)-1:=bS;have A5:IntKind.i64.wrap (d.size-((2 * bY z+c:Nat):Int))=((z-(2 * bY z+c):Nat):Int):=by rw[bS];omega
  have aQI:=O7 (z-(2 * bY z+c)) gf;repeat' first|((first|refine mx [11] T7 ?_|refine mx [12] T8 ?_|refine mx [13] T9 ?_|refine ae ?_);simp only[go_sem,SC,A5])|refine ai ?_|fail
  obtain⟨U,V⟩:∃U:cj,U={bG:=d,seq:=q,base:=bs,next:=bs+rs.length,end_:=(2 * bY z+c:Nat),eB:=bs+rs.length-1,kept:=bs+rs.length-1,waits:=[],iQ:=true,marked:=0,fP:=0,lg:=0}:=⟨_,rfl⟩
  rw[<-V];have kK:fI U.bG:=by rw[V];exact hk
  have vZ:∀F w A B C,dJ (H.length+3) F true w (H++[A,B,C,.cells 0<|iG F true w (H.length+4),.cells 0 [.ref (H.length+3) 0 0]]):=λF w A B C=>⟨mZ,mZ⟩
  have p8:∀k,(fM k).length=k:=Gr;have Z:=λA B C=>GI (vZ false U A B C) kK (2 * bY z+c) (fM ((z-(2 * bY z+c)) * 16)) (by rw[p8];omega) gf
  have ev:=Pb kK (2 * bY z+c) (fM ((z-(2 * bY z+c)) * 16))<|by rw[V];simp only;unfold dz;rw[p8];omega
  obtain⟨d1,rY,fO⟩:=JW U (2 * bY z+c)<|fM ((z-(2 * bY z+c)) * 16);obtain⟨OJ,Rz⟩:∃OJ,gi U (2 * bY z+c) (fM<|(z-(2 * bY z+c)) * 16)=OJ:=⟨_,rfl⟩;rw[Rz]at rY Z ev ⊢;obtain⟨c5,ax⟩:=OJ;simp only at rY Z ev ⊢;subst rY;subst V;simp only[iG,jm,ite_self]at Z;refine Dj (Z _ _ _) (by exact aI) ?_
  simp only[go_sem];have ij:=GY z gf;have J:=Lj z (q+1) gf gf;rw[<-a1]at ij J;have aYN:=O7 (bY z) gf;have SD:IntKind.i64.wrap ((q:Int)+1)=((q+1:Nat):Int):=by rw[bS];omega
  repeat' first|((first|refine ia (J _ _) aI ?_|refine kg (J _ _) aI ?_|refine kh (λ_=>J _ _) aI ?_|refine mx [11] T7 ?_|refine mx [12] T8 ?_|refine mx [13] T9 ?_|refine ae ?_);simp only[go_sem,SD])|((with_reducible refine And.intro ?_ ?_);focus (exact o8 (J _ _) aI))|((with_reducible refine And.intro (And.intro ?_ ?_) ?_);focus (exact o8 (J _ _) aI))|(exact o8 (J _ _) aI)|refine ai ?_|fail
  have aBr:fI d1:=ev;have I:=λA B C=>GI (vZ false {bG:=d1,seq:=(q:Int),base:=bs,next:=bs+rs.length,end_:=(2 * bY z+c:Nat),eB:=bs+rs.length-1,kept:=bs+rs.length-1,waits:=[],iQ:=true,marked:=0,fP:=0,lg:=0} A B C) aBr (hV z (q+1)) (fM (bY z * 16)) (by rw[p8];omega)<|by unfold hV;split<;>omega
  obtain⟨d2,ie,gl⟩:=JW {bG:=d1,seq:=(q:Int),base:=bs,next:=bs+rs.length,end_:=(2 * bY z+c:Nat),eB:=bs+rs.length-1,kept:=bs+rs.length-1,waits:=[],iQ:=true,marked:=0,fP:=0,lg:=0} (hV z (q+1)) (fM<|bY z * 16)
  obtain⟨Ef,ux⟩:∃Ef,gi {bG:=d1,seq:=(q:Int),base:=bs,next:=bs+rs.length,end_:=(2 * bY z+c:Nat),eB:=bs+rs.length-1,kept:=bs+rs.length-1,waits:=[],iQ:=true,marked:=0,fP:=0,lg:=0} (hV z (q+1)) (fM<|bY z * 16)=Ef:=⟨_,rfl⟩
  rw[ux]at ie I ⊢;obtain⟨cY,aq⟩:=Ef;simp only at ie I ⊢;subst ie;simp only[iG,jm,ite_self]at I;refine Dj (I _ _ _) (by exact aI) ?_
  simp only[go_sem];repeat' first|(refine ae ?_;simp only[go_sem])|refine ai ?_|fail
  exact aX<|YR false true false {bG:=d2,seq:=(q:Int),base:=bs,next:=bs+rs.length,end_:=(2 * bY z+c:Nat),eB:=bs+rs.length-1,kept:=bs+rs.length-1,waits:=[],iQ:=true,marked:=0,fP:=0,lg:=0} st rs 0
end Go.Proofs.YtnmamncmpklliaaGreatDoor
