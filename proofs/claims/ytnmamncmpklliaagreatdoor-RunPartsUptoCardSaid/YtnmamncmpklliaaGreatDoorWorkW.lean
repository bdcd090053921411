/- What functions answer. No condition. -/
import Derived.Test.YtnmamncmpklliaaGreatDoorWorkU
set_option linter.unusedSimpArgs false
set_option linter.unusedVariables false
set_option maxRecDepth 100000
set_option maxHeartbeats 16000000
namespace Go.Proofs.YtnmamncmpklliaaGreatDoor
variable{l:List Ord}
open Go.Proofs.Tryz
theorem Vt{d:eR}{q:Nat}(h):(fy d (l.take<|q+1)).1=(Av (fy d<|l.take q).1 l[q]).1:=by rw[hc h,N6,aIc];rfl
def To:List cK:=[.ah 0,.aQ,.aQ,.ah 0,.ah 0,.ah 0,.aQ,.aQ,.aQ,.bW [true,true,true,true],.bW [],.aQ]
attribute [go_sem] To
theorem P0{r s:Int}{w:al}(hs:s<=1000)(J:∀o∈l,lX o)(hl:l.length<=5000)(hw:oP r s l=some w)(K:w.length<=1048576)(H:ab):aO prog 23 [.str w] H (vv<|some (r,s,l)):=by
 have U:=aFc (λo h=>(J o h).aRD) hw;have:=Ze w K (λO S T h ay=>by rw[U]at h;cases h;exact KJ hs J hl ay) H
 rwa[U]at this
theorem aIe(s n:Int)(f:Bool)(l:List Ord)(V:∀o∈l,lX o)(xG:l.length<=1048576)(H:ab):aO prog 8 [.int .u16 s,.sl f<|l.map da,.int .u8 n] H (.bool true):=by
 refine Pw λk1 k2 k3=>?_;have hs:0<=s/\s<=65535:=Lt k1;have af:0<=n/\n<=255:=Lt k3;have hi:∀o∈l,BQ o:=λo aD=>⟨(V o aD).n,(V o aD).pick⟩;refine bg func8 ?_;have MI:=OO;obtain⟨S,hJ,CB⟩:∃S,IntKind.i64.wrap (s.tmod 1001)=S/\0<=S/\S<=1000:=⟨_,rfl,by rw[wR hs.1,bS];omega⟩
 have SI:IntKind.i64.wrap n=n:=bS;have dw:IntKind.i64.wrap ((l.length:Int)+1)=((l.length+1:Nat):Int):=by rw[bS];omega
 have fO:¬(((l.length+1:Nat):Int)=0):=gf;obtain⟨K,bL,aOD⟩:∃K:Nat,n.tmod ((l.length+1:Nat):Int)=(K:Int)/\K<=l.length:=by
  have ay:=Int.emod_nonneg n<|show((l.length+1:Nat):Int)≠0 by omega
  have h1:=Int.emod_lt_of_pos n<|show(0:Int)<((l.length+1:Nat):Int) by omega
  refine⟨(n % ((l.length+1:Nat):Int)).toNat,?_,gf⟩;rw[wR af.1];omega
 have kl:(K<=l.length)=True:=b1 aOD;have CO:(l.take K).length=K:=by rw[gK];omega
 have po:∀o∈l.take K,lX o:=λo h=>V o<|yp h
 have hw:=KG f 0 S l ko gf V xG;have gI:=KG (f&&decide ((K:Int)=(l.length:Int))) 0 S (l.take K) ko gf po gf;obtain⟨w,e,F1,gG⟩:=ON<|oP 0 S l;obtain⟨w',lZ,aQx,CD⟩:=ON<|oP 0 S (l.take K);rw[F1]at hw;rw[aQx,vl]at gI;have aA:=XC f l 60;obtain⟨Cv,Z⟩:∃Cv,xe l 60=Cv:=⟨_,rfl⟩;rw[Z]at aA;by_cases vU:Cv=true/\e=0/\lZ=0
 ·obtain⟨rfl,rfl,rfl⟩:=vU;have yY:oP 0 S l=some w:=by rcases gG with⟨-, -,h⟩|⟨h, -⟩;cases h;exact h
  have aA2:oP 0 S (l.take K)=some w':=by rcases CD with⟨-, -,h⟩|⟨h, -⟩;cases h;exact h
  have ig:=(PZ Z).2;have uH:=O4 yY Z hi;have aQy:w'.length<=1048576:=O4 aA2 (by
   unfold xe at Z ⊢;simp only[dp,fu,iK]at Z ⊢;exact⟨λo h=>Z.1 o<|yp h,gf⟩) λo h=>hi o<|yp h
  have z:=P0 CB.2 V gf yY uH;have FQ:=P0 CB.2 po gf aA2 aQy;have J:=PW 0 S;have bq:=λay=>KJ (r:=0) CB.2 V gf ay;have M7:=λay=>KJ (r:=0) (l:=l.take K) CB.2 po gf ay;simp only[vv]at z FQ;obtain⟨X,dk⟩:∃X,jA 0 S=X:=⟨_,rfl⟩;rw[dk]at J z FQ bq M7;obtain⟨d,k⟩:=X;simp only at J z FQ bq M7;by_cases hk:k=0;case neg=>
   have hd:decide (k=0)=false:=b0 hk;rw[ar hk]at z FQ;unfold ez at J;simp only[fq]at J;repeat' first|(refine ae ?_;simp only[go_sem,hJ,hd,SI,dw,fO,bL,kl])|refine bp ?_|(refine bz ?_ ?_<;>intro h<;>try exact bx h)|fail
   exact aX<|.of rfl
  subst hk;rw[aC rfl]at z FQ;obtain⟨l8,Ny,aYW, -⟩:=bq rfl;obtain⟨-,U,Dr, -⟩:=M7 rfl;have pV:=N6 (l.take K) (l.drop K) d;rw[sF]at pV;obtain⟨p,ad⟩:∃p,(fy d l).2++dj (lC (fy d l).1)=p:=⟨_,rfl⟩;obtain⟨O,za⟩:∃O,(fy d (l.take K)).2++dj (lC (fy d<|l.take K).1)=O:=⟨_,rfl⟩;rw[ad]at z;rw[za]at FQ;have fL:=Ny.len;have aW:=kX (t:=lC (fy d l).1) gf
  have dL:p.length=(fy d l).2.length+(dj (lC (fy d l).1)).length:=by rw[<-ad,bw]
  unfold ez at J;simp only[fq]at J;repeat' first|(refine ae ?_;simp only[go_sem,hJ,SI,dw,fO,bL,kl])|refine bp ?_|(refine bz ?_ ?_<;>intro h<;>try exact bx h)|fail
  obtain⟨D,bR⟩:∃D:Nat->eR,∀q,D q=(fy d (l.take q)).1:=⟨_,λ_=>rfl⟩;refine n8 (ι:=ab) (λ_=>[(7,.bool true),(13,.str p),(14,.int .i64 0),(15,.str O),(16,.int .i64 0),(17,.ref H.length 0 0)]) (λM=>H++.cells 0 (ez (fy d<|l.take K).1).cells::M) (λ_=>True) ?_ ?_
  ·refine c7 (ι:=Nat×ab) (λx=>[(1,.sl f<|l.map da),(7,.bool true),(8,.int .i64 K),(13,.str p),(14,.int .i64 0),(15,.str O),(16,.int .i64 0),(17,.ref H.length 0 0),(19,.int .i64 x.1)]) (λx=>H++.cells 0 (ez<|D x.1).cells::x.2) (λx=>x.1<=K) (λx=>K-x.1) (0,[]) (cb _) ?_ (by rw[bR];rfl) ?_
   ·simp[go_sem]
   rintro⟨q,M⟩ aM;simp only at aM ⊢;by_cases av:q<K
   ·have gP:q<l.length:=gf;have cA:=ek da gP;have bl:decide ((q:Int)<(K:Int))=true:=cS;have xI:=(l8 q gP).1;have qT:D (q+1)=(Av (D q) l[q]).1:=by rw[bR,bR];exact Vt gP
    rw[<-bR]at xI;generalize l[q]=o at *;have lH:=Zf (D q) o xI.toOG;generalize D q=x at *;obtain⟨y,aJ⟩:∃y,D (q+1)=y:=⟨_,rfl⟩;rw[<-qT,aJ]at lH;simp only[da]at cA lH;obtain⟨G,a7⟩:∃G,H++.cells 0 (ez x).cells::M=G:=⟨_,rfl⟩;have g0:az G H.length=.cells 0 (ez x).cells:=by rw[<-a7];simp only[go_sem]
    have IL:∀X,an G H.length X=H++X::M:=λX=>by rw[<-a7];simp only[go_sem]
    rw[a7];have g1:=bE g0 trivial;have gs:=hU g0 trivial;unfold ez at lH g0 g1 ⊢;simp only[fq,I.cells]at lH g0 g1 ⊢;repeat' first|((first|refine mx [15] To ?_|refine ae ?_);simp only[go_sem,cA,bl,gP,g0,g1,gs,IL])|refine bp ?_|(refine bz ?_ ?_<;>intro h<;>try exact bx h)|fail
    exact⟨(q+1,M++[.cells 0 (ez y).cells]),av,by simp only;omega,b7 _<|eb gP gf,by simp only[aJ];unfold ez;simp only[fq,I.cells,c6,mf]⟩
   ·have l2:q=K:=gf;subst l2;have bl:decide ((q:Int)<(q:Int))=false:=dA;repeat' first|(refine ae ?_;simp only[go_sem,bl])|refine bp ?_|(refine bz ?_ ?_<;>intro h<;>try exact bx h)|fail
    exact⟨M,by simp only[bR]⟩
  intro M _;rw[pV]at ad;generalize fy d (l.take K)=y at *;obtain⟨y,T⟩:=y;simp only[c6]at U Dr ad za ⊢;have ag:=Ls y U.at_ U.n U.wf U.nl U.NT U.it U.Gb;have cH:=U.len;have aF:=zt [] (lC y) hW gf nc;rw[jb]at aF;generalize lC y=t at *;have aYD:O.length=T.length+(dj t).length:=by rw[<-za,bw]
  have bA:=kX (t:=t) gf;have tf:O.take T.length=T:=by rw[<-za,yn]
  have n2:p.take T.length=T:=by rw[<-ad,yn]
  have aYC:T.length<=p.length:=by rw[<-ad,bw];omega
  generalize dj t=v at *;have wb:IntKind.i64.wrap ((O.length:Int)-(v.length:Int))=(T.length:Int):=by rw[bS];omega
  have xB:decide ((T.length:Int)<=(p.length:Int))=true:=cS;have v7:max (T.length:Int) (0:Int)=(T.length:Int):=gf;have CQ:min (T.length:Int) (p.length:Int)=(T.length:Int):=gf;have q1:min (T.length:Int) (O.length:Int)=(T.length:Int):=gf;have aPS:(T.length<=p.length)=True:=b1 gf;have aBx:(T.length<=O.length)=True:=b1 gf;unfold ez at ag ⊢;simp only[fq,I.cells]at ag ⊢;repeat' first|(refine ae ?_;simp only[go_sem,xB,wb,v7,CQ,q1,aPS,aBx,tf,n2])|refine bp ?_|(refine bz ?_ ?_<;>intro h<;>try exact bx h)|fail
  exact aX<|.of hW
 ·repeat' first|(refine ae ?_;simp only[go_sem,hJ,SI,dw,fO,bL,kl])|refine bp ?_|(refine bz ?_ ?_<;>intro h<;>try exact bx h)|fail
  ·exact bJ<|.of rfl
  ·exfalso;simp at h;exact vU ⟨h.1.1,h.1.2,h.2⟩
theorem YP{f:Bool}(q:h8 1048576 (.sl f<|l.map da))(h:∀o∈l,BQ o):(∀o∈l,lX o)/\l.length<=1048576:=by
 refine⟨λo J=>?_,by have:=q.aDa.1;rwa[dq]at this⟩
 have aM:=(q.aDa.2 (da o) (BF J)).aMW;exact⟨(aM (.str o.call.path) (by simp[da,cy])).NV,(aM (.str o.call.to) (by simp[da,cy])).NV,(aM (.str o.call.data) (by simp[da,cy])).NV,(h o J).n,(h o J).pick,(aM (.str o.cC) (by simp[da,cy])).NV⟩
theorem aFn(s n:Int)(f:Bool)(l:List Ord)(q:h8 1048576 (.sl f<|l.map da))(H:ab):aO prog 8 [.int .u16 s,.sl f<|l.map da,.int .u8 n] H (.bool true):=by
 refine Pw λk1 k2 k3=>?_;obtain⟨h1,h2⟩:=YP q λo J=>⟨(HK (Of k2 o J _ (by simp:I.int .i64 o.call.n∈_))).2,(HK (Of k2 o J _ (by simp:I.int .i64 o.pick∈_))).2⟩
 exact aIe s n f l h1 h2 H
section
open Go.ChangeShapes Go.WideShapes Go.ChangeAt Go.RowKit
theorem aLr:n5 prog 76=false:=ma
theorem YQ{x:I}(h:∃ys,x=mF prog 76 ys/\jW prog 76 ys/\(n5 prog 76=true\/ys.length=1)):∃n,x=.int .u16 n:=by obtain⟨ys,rfl,h,_⟩:=h;obtain⟨n,rfl,hw⟩:=EJ underlying76 h;exact⟨n,by rw[mF,ar<|by rw[aLr];decide];rfl⟩
end
end Go.Proofs.YtnmamncmpklliaaGreatDoor
