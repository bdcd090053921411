/- What the functions of this seat answer (32 of 53). No condition. -/
import Derived.Test.YtnmamncmpklliaaGreatDoorWorkBA
import Derived.Test.YtnmamncmpklliaaGreatDoorWorkBE
set_option linter.unusedSimpArgs false
set_option linter.unusedVariables false
set_option maxRecDepth 100000
set_option maxHeartbeats 16000000
namespace Go.Proofs.YtnmamncmpklliaaGreatDoor
variable{s:ag}
open Go.Proofs.Tryz
def lf(s:ag)(q:Int):Option (Int×ag):=
 (hz s q).bind fun(t,_)=>(e9 t).bind fun(b,r)=>if b<1\/1000001<b then none else(mW r).bind fun(x,a8)=>if a8=[]then some (b,x)else none
def Tc(s:ag)(q:Int):I:=match lf s q with
 |none=>.aQ [.int .i64 0,.str [],.bool false]
 |some (b,x)=>.aQ [.int .i64 b,.str x,.bool true]
def o4(s:ag)(i k:Nat):Option (Nat×Int×ag):=if(k+1) % 2=i then(lf s (k+1:Nat)).map (k+1,·)else none
def qz(s:ag)(i:Nat):Option (Nat×Int×ag):=(List.range 200).findSome? (o4 s i)
def yg(x:Nat×Int×ag):Option (Nat×Int×ag)->Nat×Int×ag
 |none=>x
 |some y=>if x.1<y.1 then y else x
def pL(d:ft)(i:Nat):ag:=jr d (dT d.size.toNat i)<|bj d.size.toNat
def ks(d:ft):Nat->Nat×Int×ag
 |0=>(0,0,[])
 |i+1=>yg (ks d i)<|qz (pL d i) i
theorem aGU{x:ag}{q b:Int}(h:lf s q=some (b,x)):1<=b/\b<=1000001/\x.length<=40000/\1<=q/\q<=1000000:=by
 unfold lf at h;simp only[ni]at h;obtain⟨⟨t,k⟩,h1,⟨v,r⟩,h2,h⟩:=h;obtain⟨-, -,g1,g2, -,h3⟩:=xr h1;have h4:=ml h2;simp only at h h4;split at h
 ·cases h
 ·simp only[ni]at h;obtain⟨⟨y,K⟩,J,h⟩:=h;have U:=vo J;simp only at h U;split at h
  ·cases h;exact⟨iV,iV,iV,g1,g2⟩
  ·cases h
theorem aK0{i k:Nat}{y:Nat×Int×ag}(h:o4 s i k=some y):y.1=k+1/\(k+1) % 2=i/\1<=y.2.1/\y.2.1<=1000001/\y.2.2.length<=40000:=by
 unfold o4 at h;split at h
 ·rename_i h1;rw[hC]at h;obtain⟨⟨b,x⟩,h2,rfl⟩:=h;have:=aGU h2;exact⟨rfl,h1,this.1,this.2.1,this.2.2.1⟩
 ·cases h
theorem aJy(s:ag)(q:Int)(hs:s.length<=1073741824)(H:ab):aM prog 153 [.str s,.int .i64 q] H (Tc s q):=by
 refine aZ func153 ?_;unfold Tc lf;have h1:=Xj s q hs;unfold Lq at h1;cases av:hz s q with
 |none=>
  rw[av]at h1;simp only at h1;repeat' first|(refine ae ?_;simp only[go_sem])|refine ao ?_|fail
  exact bD<|.refl _
 |some aP=>
 obtain⟨t,k⟩:=aP;rw[av]at h1;have I:=(xr av).2.2.2.2.2;simp only[fZ]at h1 ⊢;have h2:=FW t iV
 unfold xM at h2;cases al:e9 t with
 |none=>
  rw[al]at h2;simp only at h2;repeat' first|(refine ae ?_;simp only[go_sem])|refine ao ?_|fail
  exact bD<|.refl _
 |some T=>
 obtain⟨b,r⟩:=T;rw[al]at h2;have z:=ml al;simp only[fZ]at h2 ⊢;by_cases K:b<1\/1000001<b
 ·have V:(decide (b<1)||decide (1000001<b))=true:=nX
  rw[aA K];refine hH ?_;all_goals first|exact bD (.refl _)|(exfalso;simp at *;omega)
 have V:(decide (b<1)||decide (1000001<b))=false:=nX
 rw[aj K];have h3:=FX r iV
 unfold zC at h3;cases O:mW r with
 |none=>
  rw[O]at h3;simp only at h3;refine hH ?_;exact bD<|.refl _
 |some Z=>
 obtain⟨x,U⟩:=Z;rw[O]at h3;simp only[fZ]at h3 ⊢;by_cases J:U=[]
 ·have hd:decide (U=[])=true:=cD J;rw[aA J];refine hH ?_;exact bD<|.refl _
 ·have hd:decide (U=[])=false:=bN J;rw[aj J];refine hH ?_;exact bD<|.refl _
theorem aMD(f:Bool){d:ft}(hk:eY d)(H:ab):aM prog 104 [fW f d] H (.aQ [.int .i64 (ks d 2).1,.int .i64 (ks d 2).2.1,.str (ks d 2).2.2]):=by
 refine aZ func104 ?_;have hsz:=hk.size;obtain⟨z,aT⟩:∃z:Nat,d.size=z:=⟨d.size.toNat,iV⟩
 have lE:∀i,pL d i=jr d (dT z i) (bj z):=λi=>by unfold pL;rw[show d.size.toNat=z by omega]
 obtain⟨X,V⟩:∃X,ks d=X:=⟨_,rfl⟩;rw[V];unfold fW;repeat' first|(refine ae ?_;simp only[go_sem])|refine bt ?_|fail
 refine cE (ι:=Nat) (λi=>[(1,.ref H.length 0 0),(5,.int .i64 (X i).1),(6,.int .i64 (X i).2.1),(7,.str (X i).2.2),(15,.int .i64 i)]) (λ_=>H++[.cells 0 [.int .i64 d.size,.str d.iU,.sl f<|d.loose.map eO]]) (λi=>i<=2) (λi=>2-i) 0 iV ?_ rfl ?_
 ·simp[go_sem,<-V,ks]
 intro i hi;by_cases Z:i<2
 ·have bg:decide ((i:Int)<2)=true:=cK;have aXW:IntKind.i64.wrap ((i:Int)+1)=((i+1:Nat):Int):=by rw[bI];omega
  have h7:=F5 z iV
  have oY:=KF z i iV iV
  have aXR:dT z i+bj z<=z:=by unfold dT bj;split<;>omega
  have O:=XQ f hk (dT z i) (bj z) iV iV
  have RF:BN d (dT z i) (bj z)=(pL d i,0):=by
   unfold BN;rw[aj iV,e5,e5,lE]
  rw[RF]at O;rw[<-aT]at h7 oY;have mu:(pL d i).length<=1048576:=by rw[lE,FE hk _ _ iV];omega
  have J:X (i+1)=yg (X i) (qz (pL d i) i):=by rw[<-V];rfl
  unfold fW at O;unfold qz at J;generalize pL d i=S at *;simp only at O;repeat' first|((first|refine cx (oY _) ?_|refine cx (O _ _) ?_|refine ae ?_);simp only[go_sem,bg])|refine ao ?_|fail
  refine cE (ι:=Nat) (λq=>[(1,.ref H.length 0 0),(5,.int .i64 (X i).1),(6,.int .i64 (X i).2.1),(7,.str (X i).2.2),(8,.int .i64 i),(9,.str S),(11,.int .i64 (q+1:Nat)),(15,.int .i64 i)]) (λ_=>H++[.cells 0 [.int .i64 d.size,.str d.iU,.sl f<|d.loose.map eO]])
   (λq=>q<=200/\(List.range q).findSome? (o4 S i)=none) (λq=>200-q) 0 ⟨iV,rfl⟩ ?_ rfl ?_
  ·simp[go_sem]
  rintro q ⟨aJ,cH⟩;by_cases jE:q<200
  ·have iz:decide (((q+1:Nat):Int)<=200)=true:=cK;have aXX:IntKind.i64.wrap (((q+1:Nat):Int)+1)=((q+1+1:Nat):Int):=by rw[bI];omega
   have Ie:(((q+1:Nat):Int)).tmod 2=(((q+1) % 2:Nat):Int):=by rw[Bf iV];omega
   have qj:IntKind.i64.wrap (((q+1) % 2:Nat):Int)=(((q+1) % 2:Nat):Int):=bI;have U:(List.range (q+1)).findSome? (o4 S i)=o4 S i q:=by rw[zp,List.findSome?_append,cH];simp
   have T:∀y,o4 S i q=some y->(List.range 200).findSome? (o4 S i)=some y:=λy aH=>by
    rw[show 200=(q+1)+(199-q) by omega,List.range_add,List.findSome?_append,U,aH];rfl
   by_cases vN:(q+1) % 2=i
   ·have I:decide ((((q+1) % 2:Nat):Int)=(i:Int))=true:=cK;have K:=aJy S (q+1:Nat) iV
    unfold Tc at K;unfold o4 at U T;rw[aA vN]at U T;cases h8:lf S (q+1:Nat)with
    |none=>
     rw[h8]at K U;simp only at K;refine hH ?_;exact⟨q+1,⟨jE,by unfold o4;exact U⟩,iV,rfl⟩
    |some y=>
     obtain⟨b,x⟩:=y;rw[h8]at K T;simp only at K;have aOg:=T (q+1,b,x) rfl;unfold o4 at J;rw[aOg]at J;unfold yg at J;simp only at J;by_cases Mb:(X i).1<q+1
     ·have Q6:decide (((X i).1:Int)<((q+1:Nat):Int))=true:=cK;rw[aA Mb]at J;refine hH ?_;exact⟨i+1,Z,iV,by rw[J],by rw[J],by rw[J],rfl⟩
     ·have Q6:decide (((X i).1:Int)<((q+1:Nat):Int))=false:=cQ;rw[aj Mb]at J;refine hH ?_;exact⟨i+1,Z,iV,by rw[J],by rw[J],by rw[J],rfl⟩
   ·have I:decide ((((q+1) % 2:Nat):Int)=(i:Int))=false:=cQ;unfold o4 at U;rw[aj vN]at U;refine hH ?_;exact⟨q+1,⟨jE,by unfold o4;exact U⟩,iV,rfl⟩
  ·have iz:decide (((q+1:Nat):Int)<=200)=false:=cQ;obtain rfl:q=200:=iV
   rw[cH,show yg (X i) none=X i from rfl]at J
   refine hH ?_;exact⟨i+1,Z,iV,by rw[J],by rw[J],by rw[J],rfl⟩
 ·have bg:decide ((i:Int)<2)=false:=cQ;obtain rfl:i=2:=iV
  refine hH ?_;exact aV<|.refl _
end Go.Proofs.YtnmamncmpklliaaGreatDoor
