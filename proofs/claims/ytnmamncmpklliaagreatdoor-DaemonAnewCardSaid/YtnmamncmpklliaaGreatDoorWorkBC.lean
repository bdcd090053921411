/- What the functions of this seat answer (29 of 53). No condition. -/
import Derived.Test.YtnmamncmpklliaaGreatDoorWorkBB
set_option linter.unusedSimpArgs false
set_option linter.unusedVariables false
set_option maxRecDepth 100000
set_option maxHeartbeats 16000000
namespace Go.Proofs.YtnmamncmpklliaaGreatDoor
variable{m:UInt8}{s:ag}{i y:Nat}{args:List I}{H:ab}{v:I}{K:I->ab->Prop}
open Go.Proofs.Tryz
def xP(s:ag):Option ag:=if s.length<4 then none else if u9 (tI<|s.take (s.length-4))=s.drop (s.length-4)then some (s.take<|s.length-4)else none
def DV(s:ag):I:=match xP s with
 |none=>.aQ [.str [],.bool false]
 |some t=>.aQ [.str t,.bool true]
def ti(m:UInt8)(s:ag)(i:Nat):Bool:=decide (s.getD (16 * i) 0=m)&&decide (s.getD (16 * i+15) 0=m)
def jW(m:UInt8)(s:ag):Nat:=((List.range (s.length / 16)).takeWhile (ti m s)).length
def qw(s:ag)(i:Nat):ag:=(s.drop (16 * i+1)).take 14
theorem KG{p:Nat->Bool}:∀(l:List Nat),(∀i (h:i<(l.takeWhile p).length),p (l[i]'(by have:=(J2 p (l:=l)).length_le;omega))=true)/\((h:(l.takeWhile p).length<l.length)->p l[(l.takeWhile p).length]=false)
 |[]=>⟨λi h=>by simp at h,λh=>by simp at h⟩
 |a::l=>by
  obtain⟨h1,h2⟩:=KG (p:=p) l;cases J:p a with
  |false=>simp[J]
  |true=>
   refine⟨λi h=>?_,λh=>?_⟩
   ·cases i with
    |zero=>exact J
    |succ i=>simp only[List.takeWhile_cons,J,dG,cg]at h;exact h1 i iV
   ·simp only[List.takeWhile_cons,J,dG,cg,List.getElem_cons_succ]at h ⊢;exact h2 iV
theorem NF(h:i<jW m s):ti m s i=true/\16 * i+16<=s.length:=by
 have hl:=(J2 (ti m s) (l:=List.range<|s.length / 16)).length_le;rw[Bh]at hl;have:=(KG (p:=ti m s) (List.range<|s.length / 16)).1 i h;rw[List.getElem_range]at this;unfold jW at h;exact⟨this,iV⟩
theorem aFJ(m:UInt8)(s:ag):s.length<16 * jW m s+16\/ti m s (jW m s)=false:=by
 by_cases h:jW m s<s.length / 16
 ·have:=(KG (p:=ti m s) (List.range (s.length / 16))).2<|by rw[Bh];exact h
  rw[List.getElem_range]at this;exact .inr this
 ·exact .inl iV
def UN:List cu:=[.free,.pure 0,.pure 0,.free,.free,.free,.pure 0,.pure 0,.free,.free,.free,.free,.free,.pure 0,.eff [false,true,true,true,true],.free,.free]
attribute [go_sem] UN
theorem aJv(s:ag)(hs:s.length<=1073741824)(H:ab):aM prog 195 [.str s] H (DV s):=by
 refine aZ func195 ?_;by_cases h:s.length<4
 ·have hd:decide ((s.length:Int)<4)=true:=cK;have J:DV s=.aQ [.str [],.bool false]:=by unfold DV xP;rw[aA h]
  rw[J];refine hH ?_;exact bD<|.refl _
 ·have hd:decide ((s.length:Int)<4)=false:=cQ;have hw:IntKind.i64.wrap ((s.length:Int)-4)=((s.length-4:Nat):Int):=by rw[bI];omega
  have h1:=XW (s.take (s.length-4)) true nX
  have h2:=Wg<|tI (s.take (s.length-4));have J:DV s=if decide (u9 (tI<|s.take (s.length-4))=s.drop (s.length-4))=true then .aQ [.str (s.take<|s.length-4),.bool true]else .aQ [.str [],.bool false]:=by unfold DV xP;rw[aj h];by_cases aJ:u9 (tI<|s.take (s.length-4))=s.drop (s.length-4)<;>simp[aJ]
  rw[J];generalize u9 (tI<|s.take (s.length-4))=U at *;repeat' first|refine hH ?_|(refine bB ?_ ?_<;>intro h<;>try exact bA h)|fail
  ·rw[aj (by simpa using h)]
   exact bD<|.refl _
  ·rw[aA (by simpa using h)]
   exact bD<|.refl _
theorem aFK(s:ag)(m:UInt8)(H:ab):aM prog 224 [.str s,.int .u8 m.toNat] H (.func (.func 255) [] [.cptr [.str s],.cptr [.int .u8 m.toNat]]):=by
 refine aZ func224 ?_;refine aW ?_;refine⟨_,_,rfl,?_,rfl⟩;refine .func _ _ _ _ _ rfl rfl fw (dj (Dj iV nb ?_)<|dj (Dj iV nb ?_) fw)
 ·simp only[dF,forall_eq];exact .str _
 ·simp only[dF,forall_eq];exact .int _ _
theorem aJw{H1:ab}(h:sJ prog y args H (λx H'=>x=v/\H'=H1))(hk:K v H1):DZ prog true (.func (.yield y) [] []) args H K:=
 ⟨v,H1,λ_=>h,λh=>(by cases h),hk⟩
theorem Xi{f:I}(hk:K v H):DZ prog false f args H K:=
 ⟨v,H,λh=>(by cases h),λ_=>rfl,hk⟩
theorem aFL(hs:s.length<=1073741824)(J:Nat->ab)(R:ab->Prop)(A:Nat->Prop)(aw:A 0)(I:A (jW m s)->R (J<|jW m s))
  (ji:∀i,i<jW m s->A i->∃b O,sJ prog y [.str (qw s i)] (J i) (λw G=>w=.bool b/\G=O)/\(b=true->O=J (i+1)/\A (i+1))/\(b=false->R O)):
  dp prog 255 [.func (.yield y) [] [],.cptr [.str s],.cptr [.int .u8 m.toNat]] (J 0) (λ_ H'=>R H'):=by
 refine p3 func255 ?_;have jC:=o9 [(4,UN)];refine aW ?_;refine cE (ι:=Nat) (λi=>[(0,.func (.yield y) [] []),(1,.cptr [.str s]),(2,.cptr [.int .u8 m.toNat]),(4,.int .i64 (16 * i:Nat))]) (λi=>J i) (λi=>i<=jW m s/\A i) (λi=>jW m s-i) 0 ⟨bW _,aw⟩ ?_ rfl ?_
 ·simp[go_sem]
 rintro i ⟨hi,T⟩;have eU:jW m s<=s.length / 16:=by have:=(J2 (ti m s) (l:=List.range<|s.length / 16)).length_le;rw[Bh]at this;exact this
 have hw:IntKind.i64.wrap (((16 * i:Nat):Int)+16)=((16 * i+16:Nat):Int):=by rw[bI];omega
 by_cases h1:16 * i+16<=s.length
 ·have hd:decide (((16 * i+16:Nat):Int)<=(s.length:Int))=true:=cK;have z:∀k,k<16->((s.drop (16 * i)).take 16).getD k 0=s.getD (16 * i+k) 0:=λk hk=>by
   simp only[et,Dv,zm,aA hk]
  have h7:List.drop (16 * i) (List.take (16 * i+16) s)=(s.drop (16 * i)).take 16:=by rw[List.drop_take];congr 1;omega
  have kj:((s.drop (16 * i)).take 16).length=16:=nX
  have ad:List.drop 1 (List.take 15<|(s.drop (16 * i)).take 16)=qw s i:=by
   unfold qw;rw[Dr,List.drop_take,sD];rfl
  have V:=z 0 iV
  have Zp:=z 15 iV
  generalize(s.drop (16 * i)).take 16=C at *;by_cases h2:i<jW m s
  ·obtain⟨Z, -⟩:=NF h2;obtain⟨b,O,aH,fN,jk⟩:=ji i h2 T;unfold ti at Z;simp only[cV,gU]at Z;rw[Z.2]at Zp;rw[rJ,Z.1]at V;refine hH ?_;refine aJw aH ?_;cases b with
   |true=>
    obtain⟨rfl,mP⟩:=fN rfl;simp only[go_sem];refine hH ?_;exact⟨i+1,⟨h2,mP⟩,iV,rfl,rfl⟩
   |false=>
    have ax:=jk rfl;simp only[go_sem];repeat' first|(refine ae ?_;simp only[go_sem,hw])|refine ao ?_|fail
    exact ax
  ·obtain rfl:i=jW m s:=iV
   have he:=(aFJ m s).resolve_left iV
   unfold ti at he;have U:∀a b:UInt8,a≠b->decide ((a.toNat:Int)=(b.toNat:Int))=false:=λa b h=>bN λe=>h<|UInt8.toNat_inj.1 iV
   rw[rJ]at V;by_cases h3:s.getD (16 * jW m s) 0=m
   ·rw[h3]at V he;have h4:s.getD (16 * jW m s+15) 0≠m:=by simpa using he
    have d4:=U _ _ h4;rw[<-Zp]at d4;refine hH ?_;refine Xi (v:=.bool true) ?_;simp only[go_sem];repeat' first|(refine ae ?_;simp only[go_sem])|refine ao ?_|fail
    exact I T
   ·have d4:=U _ _ h3;rw[<-V]at d4;refine hH ?_;refine Xi (v:=.bool true) ?_;simp only[go_sem];repeat' first|(refine ae ?_;simp only[go_sem])|refine ao ?_|fail
    exact I T
 ·have hd:decide (((16 * i+16:Nat):Int)<=(s.length:Int))=false:=cQ;obtain rfl:i=jW m s:=by
   rcases Bk i (jW m s)with h|h
   ·have:=(NF h).2;omega
   ·omega
  repeat' first|(refine ae ?_;simp only[go_sem,hw,hd])|refine ao ?_|fail
  exact I T
def rp(s:ag)(i:Nat):ag:=(List.range i).flatMap<|qw s
def xQ(m:UInt8)(s:ag):Option Nat:=
 if 0<jW m s then(e9 (qw s 0)).bind fun(n,r)=>if(s.length:Int)<n then none else some (14-r.length+n.toNat)else none
def sf(s:ag)(m:UInt8):ag:=match xQ m s with
 |none=>[]
 |some k=>if(k+13) / 14<=jW m s then rp s ((k+13) / 14)else[]
def K7:bE->bE
 |.loop l α N _ _ ps a b=>.loop l α N .done (some<|.exit 0) ps a b
 |x=>x
theorem U9(h:i<jW m s):(qw s i).length=14:=by
 have:=(NF h).2;unfold qw;simp;omega
theorem Ni{m:UInt8}{s:ag}:∀{i:Nat},i<=jW m s->(rp s i).length=14 * i
 |0,_=>rfl
 |i+1,h=>by
  have h1:=Ni (m:=m) (s:=s) (i:=i) iV
  have h2:=U9 (m:=m) (s:=s) (i:=i) iV
  unfold rp at *;rw[zp,tE,bF,h1];simp[h2];omega
theorem UO(s:ag)(i:Nat):rp s (i+1)=rp s i++qw s i:=by
 unfold rp;rw[zp,tE];simp
theorem aGP(s:ag)(m:UInt8)(hs:s.length<=1073741824)(H:ab):aM prog 194 [.str s,.int .u8 m.toNat] H (.str<|sf s m):=by
 refine aZ func194 ?_;have hm:=aFK s m;repeat' first|((first|refine cx (hm _) ?_|refine ae ?_);simp only[go_sem])|refine ao ?_|fail
 refine AX (v:=0) (cs:=[.sl true []]) (H.length+1) 0 1 nb rfl ?_
 simp only[go_sem];refine G7 [(2,.ref H.length 0 0),(5,.ref (H.length+1) 0 0),(6,.ref (H.length+2) 0 0),(13,.func (.func 255) [] [.cptr [.str s],.cptr [.int .u8 m.toNat]])] (by simp[go_sem]) ?_
 refine Jc rfl aK λy dD lD=>?_
 obtain⟨Z,oa⟩:∃Z:Nat,Z=(xQ m s).getD 0:=⟨_,rfl⟩;obtain⟨V,I⟩:∃V:Nat->Nat->bE->ab,∀i de L,V i de L=H++[.cells 0 [.str s],.cells 0 [.osl 1 (H.length+3) (i+1) 0 (14 * i) (14 * i)],.cells 0 [.int .i64 de],.cells (i+1)<|ch (rp s i),L]:=⟨_,λ_ _ _=>rfl⟩
 have aAA:(H++[bE.cells 0 [.str s],.cells 0 [.osl 1 (H.length+3) 1 0 0 0],.cells 0 [.int .i64 0],.cells 1 []]).length=H.length+4:=kk
 have aw:(H++[bE.cells 0 [.str s],.cells 0 [.osl 1 (H.length+3) 1 0 0 0],.cells 0 [.int .i64 0],.cells 1 []])++[dD]=V 0 0 dD:=by rw[I];simp[rp,ch]
 rw[aw,aAA];refine(aFL (m:=m) hs (λi=>V i (if i=0 then 0 else Z) dD) (λG=>∃i de,i<=jW m s/\(if de=0\/14 * i<de then[]else rp s i)=sf s m/\(G=V i de dD\/G=V i de (K7 dD))) (λi=>i=0\/(xQ m s=some Z/\14 * i<Z)) (.inl rfl) ?_ ?_).mono λ_ G e=>?_
 ·intro bZ;refine⟨jW m s,if jW m s=0 then 0 else Z,bd _,?_,.inl rfl⟩
  rcases bZ with h|⟨h1,h2⟩
  ·rw[aA h,aA<|.inl rfl];unfold sf xQ;rw[aj iV]
  ·rw[aA (by split<;>omega)]
   unfold sf;rw[h1];simp only;rw[aj iV]
 ·intro i hi bZ;have ek:=U9 hi;have aOH:=(NF hi).2;have dH:=Ni (m:=m) (s:=s) (i:=i) iV
  have ET:=UO s i;obtain⟨O,oX⟩:∃O:Nat,(if i=0 then 0 else Z)=O:=⟨_,rfl⟩
  rw[oX];have Ix:=FW (qw s i) iV
  have round:∀(b:Bool) (de:Nat),(if O=0 then(match e9 (qw s i)with|none=>(false,0)|some (n,r)=>if(s.length:Int)<n then(false,0)else(decide (14 * i+14<14-r.length+n.toNat),14-r.length+n.toNat))else(decide (14 * i+14<O),O))=(b,de)->
    sJ prog y [.str (qw s i)] (V i O dD) (λw G=>w=.bool b/\G=V (i+1) de (if b=true then dD else K7 dD)):=λb de U=>by
   refine JV (i:=H.length+4) (by rw[I];simp only[go_sem]) lD rfl rfl rfl rfl λjv fin Cb xf gK iX=>?_
   simp only[wR];refine ud rfl ?_;rw[I];generalize qw s i=P at *;simp only[go_sem];have jD:((14 * i+14) * 1<=140737488355328)=True:=b5 iV
   have Au:∀b:Bool,fin b (if b=true then none else some (.exit 0))=if b=true then dD else K7 dD:=λb=>by
    cases b with
    |true=>exact gK
    |false=>rw[aj nofun,aj nofun,iX,lD];rfl
   have tail:∀(b:Bool) (de:Nat) (G:ab),G=H++[.cells 0 [.str s],.cells 0 [.osl 1 (H.length+3) (i+2) 0 (14 * i+14) (14 * i+14)],.cells 0 [.int .i64 de],.cells (i+2)<|ch (rp s i)++ch P,jv]->
     wi (H.length+4) jv fin (H++[.cells 0 [.str s],.cells 0 [.osl 1 (H.length+3) (i+1) 0 (14 * i) (14 * i)],.cells 0 [.int .i64 O],.cells (i+1)<|ch (rp s i),jv]) (λw G=>w=.bool b/\G=V (i+1) de (if b=true then dD else K7 dD)) b (if b=true then none else some (.exit 0)) G:=λb de G e=>by
    refine⟨by rw[e];simp only[go_sem],G,[],kk,by rw[e];simp,?_,rfl,?_⟩
    ·rw[e];exact U3 λk b hk=>match k,hk with
      |0,h=>.inl h
      |1,h=>.inr (by cases h;intro x J;rw[dF.1 J];exact .osl _ _ _ _ _ _ kk)
      |2,h=>.inr (by cases h;intro x J;rw[dF.1 J];exact .int _ _)
      |3,h=>.inr (by cases h;rw[<-zI];exact Yz _ _ _)
      |4,h=>.inl h
      |(k+5),h=>by cases h
    ·rw[Au,I,ET,zI,e];simp only[go_sem,Nat.mul_add]
   by_cases aT:O=0
   ·subst aT;rw[aA rfl]at U;unfold xM at Ix;cases z:e9 P with
    |none=>
     rw[z]at Ix U;simp only at Ix U;cases U;repeat' first|(refine ae ?_;simp only[go_sem,dH,ek,jD])|refine ao ?_|fail
     exact tail false 0 _ rfl
    |some q=>
     obtain⟨n,r⟩:=q;rw[z]at Ix U;simp only at Ix U;have az:=ml z;obtain⟨vM,yU⟩:=UX _ _ _ _ _ (jP 0) z;by_cases af:(s.length:Int)<n
     ·rw[aA af]at U;cases U;have hd:decide ((s.length:Int)<n)=true:=cD af;repeat' first|(refine ae ?_;simp only[go_sem,dH,ek,jD,hd])|refine ao ?_|fail
      exact tail false 0 _ rfl
     ·rw[aj af]at U;have hd:decide ((s.length:Int)<n)=false:=bN af;obtain⟨v,rfl⟩:∃v:Nat,n=v:=⟨n.toNat,iV⟩
      have fH:IntKind.i64.wrap (((14:Nat):Int)-(r.length:Int))=((14-r.length:Nat):Int):=by rw[bI];omega
      have dI:IntKind.i64.wrap (((14-r.length:Nat):Int)+(v:Int))=((14-r.length+v:Nat):Int):=by rw[bI];omega
      simp only[e5]at U;obtain⟨K,aNX⟩:∃K,14-r.length+v=K:=⟨_,rfl⟩;simp only[aNX]at U dI;by_cases bP:14 * i+14<K
      ·have ee:decide ((K:Int)<=((14 * i+14:Nat):Int))=false:=cQ;rw[cD bP]at U;cases U;repeat' first|(refine ae ?_;simp only[go_sem,dH,ek,jD,hd,fH,dI,ee])|refine ao ?_|fail
       exact tail true _ _ rfl
      ·have ee:decide ((K:Int)<=((14 * i+14:Nat):Int))=true:=cK;rw[bN bP]at U;cases U;repeat' first|(refine ae ?_;simp only[go_sem,dH,ek,jD,hd,fH,dI,ee])|refine ao ?_|fail
       exact tail false _ _ rfl
   ·rw[aj aT]at U;have gl:decide ((O:Int)=0)=false:=cQ;by_cases bP:14 * i+14<O
    ·have ee:decide ((O:Int)<=((14 * i+14:Nat):Int))=false:=cQ;rw[cD bP]at U;cases U;repeat' first|(refine ae ?_;simp only[go_sem,dH,ek,jD,gl,ee])|refine ao ?_|fail
     exact tail true _ _ rfl
    ·have ee:decide ((O:Int)<=((14 * i+14:Nat):Int))=true:=cK;rw[bN bP]at U;cases U;repeat' first|(refine ae ?_;simp only[go_sem,dH,ek,jD,gl,ee])|refine ao ?_|fail
     exact tail false _ _ rfl
  have ta:∀k,14 * i<k->k<=14 * i+14->xQ m s=some k->sf s m=rp s (i+1):=λk h1 h2 h3=>by
   unfold sf;rw[h3];simp only;rw[show(k+13) / 14=i+1 by omega,aA iV]
  obtain⟨⟨b,de⟩,T⟩:∃q,(if O=0 then(match e9 (qw s i)with|none=>(false,0)|some (n,r)=>if(s.length:Int)<n then(false,0)else(decide (14 * i+14<14-r.length+n.toNat),14-r.length+n.toNat))else(decide (14 * i+14<O),O))=q:=⟨_,rfl⟩
  have key:(de=0/\b=false/\xQ m s=none)\/(14 * i<de/\xQ m s=some de/\b=decide (14 * i+14<de)):=by
   by_cases H4:i=0
   ·subst H4;rw[aA rfl]at oX;subst oX;rw[aA rfl]at T;unfold xQ;rw[aA iV]
    cases z:e9 (qw s 0)with
    |none=>rw[z]at T;cases T;exact .inl ⟨rfl,rfl,rfl⟩
    |some q=>
     obtain⟨n,r⟩:=q;rw[z]at T;simp only[fZ]at T ⊢;have az:=ml z;split at T
     ·rename_i h;cases T;rw[aA h];exact .inl ⟨rfl,rfl,rfl⟩
     ·rename_i h;cases T;rw[aj h];exact .inr ⟨iV,rfl,rfl⟩
   ·obtain⟨bZ,aNF⟩:=bZ.resolve_left H4;rw[aj H4]at oX;subst oX;rw[aj iV]at T
    cases T;exact .inr ⟨aNF,bZ,rfl⟩
  refine⟨b,_,round b de T,λU=>?_,λU=>?_⟩
  ·rcases key with⟨-,e, -⟩|⟨k1,k2,k3⟩
   ·rw[e]at U;cases U
   ·rw[U]at k3;have k4:=lT k3.symm;have hk:Z=de:=by rw[oa,k2];rfl
    rw[aA U,aj iV,hk]
    exact⟨rfl,.inr ⟨k2,iV⟩⟩
  ·refine⟨i+1,de,hi,?_,.inr<|by rw[U,aj nofun]⟩
   rcases key with⟨av, -,aY⟩|⟨k1,k2,k3⟩
   ·rw[aA (.inl av)];unfold sf;rw[aY]
   ·rw[U]at k3;have k4:=of_decide_eq_false k3.symm;rw[aj iV,ta de k1 iV k2]
 ·obtain⟨i,de,hi,az,he⟩:=e;have dH:=Ni (m:=m) (s:=s) hi;have aOH:i<=s.length:=by have:=(J2 (ti m s) (l:=List.range<|s.length / 16)).length_le;rw[Bh]at this;unfold jW at hi;omega
  have ah:List.take (14 * i * 1) (ch<|rp s i)=ch (rp s i):=iw<|by rw[q0];omega
  have hl:(14 * i * 1<=14 * i)=True:=b5 iV
  rcases he with he|he
  ·refine .inl ⟨.ready,kk,by rw[he,I];simp only[go_sem];exact lD,λX=>?_⟩
   rw[he,I];simp only[go_sem];repeat' first|refine hH ?_|(refine bB ?_ ?_<;>intro h<;>try exact bA h)|fail
   ·rw[<-az,aA (by simp at h;omega)]
    exact aV<|.refl _
   ·rw[<-az,aj (by simp at h;omega)]
    exact aV<|.refl _
  ·refine .inr<|.inr ⟨0,by rw[he,I];simp only[go_sem];rw[lD];rfl,λX=>?_⟩
   rw[he,I];simp only[go_sem];repeat' first|refine hH ?_|(refine bB ?_ ?_<;>intro h<;>try exact bA h)|fail
   ·rw[<-az,aA (by simp at h;omega)]
    exact aV<|.refl _
   ·rw[<-az,aj (by simp at h;omega)]
    exact aV<|.refl _
end Go.Proofs.YtnmamncmpklliaaGreatDoor
