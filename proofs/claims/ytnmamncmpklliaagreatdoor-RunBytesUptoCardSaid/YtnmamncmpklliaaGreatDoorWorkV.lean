/- What functions answer. No condition. -/
import Derived.Test.YtnmamncmpklliaaGreatDoorWorkU
set_option linter.unusedSimpArgs false
set_option linter.unusedVariables false
set_option maxRecDepth 100000
set_option maxHeartbeats 16000000
namespace Go.Proofs.YtnmamncmpklliaaGreatDoor
variable{l:List Ord}
open Go.Proofs.Tryz
theorem Vt{d:eR}{q:Nat}(h):(fy d (l.take<|q+1)).1=(Av (fy d<|l.take q).1 l[q]).1:=by rw[hc h,N6,aIc];rfl
def To:List cK:=[.ah 0,.aQ,.aQ,.ah 0,.ah 0,.ah 0,.aQ,.aQ,.aQ,.bW [true,true,true,true],.bW [],.aQ]
attribute [go_sem] To
theorem P0{r s:Int}{w:al}(hs:s<=1000)(J:∀o∈l,lX o)(hl:l.length<=5000)(hw:oP r s l=some w)(K:w.length<=1048576)(H:ab):aO prog 23 [.str w] H (vv<|some (r,s,l)):=by
 have U:=aFc (λo h=>(J o h).aRD) hw;have:=Ze w K (λO S T h ay=>by rw[U]at h;cases h;exact KJ hs J hl ay) H
 rwa[U]at this
theorem aId(s:Int)(f:Bool)(l:List Ord)(V:∀o∈l,lX o)(xG:l.length<=1048576)(H:ab):aO prog 7 [.int .u16 s,.sl f<|l.map da] H (.bool true):=by
 refine xX λk1 k2=>?_;have hs:0<=s/\s<=65535:=Lt k1;have hi:∀o∈l,BQ o:=λo aD=>⟨(V o aD).n,(V o aD).pick⟩;refine bg func7 ?_;have MI:=OO;obtain⟨S,hJ,CB⟩:∃S,IntKind.i64.wrap (s.tmod 1001)=S/\0<=S/\S<=1000:=⟨_,rfl,by rw[wR hs.1,bS];omega⟩
 have hw:=KG f 3 S l ko gf V xG;obtain⟨w,e,F1,gG⟩:=ON<|oP 3 S l;rw[F1]at hw;have aA:=XC f l 60;obtain⟨Cv,xA⟩:∃Cv,xe l 60=Cv:=⟨_,rfl⟩;rw[xA]at aA;by_cases vU:Cv=true/\e=0
 ·obtain⟨rfl,rfl⟩:=vU;have yY:oP 3 S l=some w:=by rcases gG with⟨-, -,h⟩|⟨h, -⟩;cases h;exact h
  have ig:=(PZ xA).2;have K:=P0 CB.2 V gf yY<|O4 yY xA hi
  have J:=PW 3 S;have bq:=λay=>KJ (r:=3) CB.2 V gf ay;simp only[vv]at K;obtain⟨X,dk⟩:∃X,jA 3 S=X:=⟨_,rfl⟩;rw[dk]at J K bq;obtain⟨d,k⟩:=X;simp only at J K bq;by_cases hk:k=0;case neg=>
   have hd:decide (k=0)=false:=b0 hk;rw[ar hk]at K;unfold ez at J;simp only[fq]at J;repeat' first|(refine ae ?_;simp only[go_sem,hJ,hd])|refine bp ?_|(refine bz ?_ ?_<;>intro h<;>try exact bx h)|fail
   exact aX<|.of rfl
  subst hk;rw[aC rfl]at K;obtain⟨l8,U,Dr, -⟩:=bq rfl;obtain⟨p,ad⟩:∃p,(fy d l).2++dj (lC (fy d l).1)=p:=⟨_,rfl⟩;rw[ad]at K;unfold ez at J;simp only[fq]at J;repeat' first|(refine ae ?_;simp only[go_sem,hJ])|refine bp ?_|(refine bz ?_ ?_<;>intro h<;>try exact bx h)|fail
  obtain⟨D,Z⟩:∃D:Nat->eR,∀q,D q=(fy d (l.take q)).1:=⟨_,λ_=>rfl⟩;refine n8 (ι:=ab) (λ_=>[(5,.bool true),(9,.str p),(10,.int .i64 0),(11,.ref H.length 0 0)]) (λM=>H++.cells 0 (ez (fy d l).1).cells::M) (λ_=>True) ?_ ?_
  ·refine c7 (ι:=Nat×ab) (λx=>[(1,.sl f<|l.map da),(5,.bool true),(9,.str p),(10,.int .i64 0),(11,.ref H.length 0 0),(13,.int .i64 x.1)]) (λx=>H++.cells 0 (ez<|D x.1).cells::x.2) (λx=>x.1<=l.length) (λx=>l.length-x.1) (0,[]) (cb _) ?_ (by rw[Z];rfl) ?_
   ·simp[go_sem]
   rintro⟨q,M⟩ aM;simp only at aM ⊢;by_cases O:q<l.length
   ·have cA:=ek da O;have bl:decide ((q:Int)<(l.length:Int))=true:=cS;have xI:=(l8 q O).1;have qT:D (q+1)=(Av (D q) l[q]).1:=by rw[Z,Z];exact Vt O
    rw[<-Z]at xI;generalize l[q]=o at *;have z:=Zf (D q) o xI.toOG;generalize D q=x at *;obtain⟨y,aJ⟩:∃y,D (q+1)=y:=⟨_,rfl⟩;rw[<-qT,aJ]at z;simp only[da]at cA z;obtain⟨G,a7⟩:∃G,H++.cells 0 (ez x).cells::M=G:=⟨_,rfl⟩;have g0:az G H.length=.cells 0 (ez x).cells:=by rw[<-a7];simp only[go_sem]
    have IL:∀X,an G H.length X=H++X::M:=λX=>by rw[<-a7];simp only[go_sem]
    rw[a7];have g1:=bE g0 trivial;have gs:=hU g0 trivial;unfold ez at z g0 g1 ⊢;simp only[fq,I.cells]at z g0 g1 ⊢;repeat' first|((first|refine mx [13] To ?_|refine ae ?_);simp only[go_sem,cA,bl,O,g0,g1,gs,IL])|refine bp ?_|(refine bz ?_ ?_<;>intro h<;>try exact bx h)|fail
    exact⟨(q+1,M++[.cells 0 (ez y).cells]),O,by simp only;omega,b7 _<|eb O gf,by simp only[aJ];unfold ez;simp only[fq,I.cells,c6,mf]⟩
   ·have l2:q=l.length:=gf;subst l2;have bl:decide ((l.length:Int)<(l.length:Int))=false:=dA;repeat' first|(refine ae ?_;simp only[go_sem,bl])|refine bp ?_|(refine bz ?_ ?_<;>intro h<;>try exact bx h)|fail
    exact⟨M,by simp only[Z,fe]⟩
  intro M _;generalize fy d l=y at *;obtain⟨y,T⟩:=y;simp only at U Dr ad ⊢;have ag:=Ls y U.at_ U.n U.wf U.nl U.NT U.it U.Gb;have cH:=U.len;have aF:=zt [] (lC y) hW gf nc;rw[jb]at aF;generalize lC y=t at *;have dL:p.length=T.length+(dj t).length:=by rw[<-ad,bw]
  have aW:=kX (t:=t) gf;have ju:p.drop T.length=dj t:=by rw[<-ad,BI]
  generalize dj t=v at *;have xB:decide ((v.length:Int)<=(p.length:Int))=true:=cS;have wb:IntKind.i64.wrap ((p.length:Int)-(v.length:Int))=(T.length:Int):=by rw[bS];omega
  have v7:max (0:Int) (T.length:Int)=(T.length:Int):=gf;have hle:(T.length<=p.length)=True:=b1 gf;unfold ez at ag ⊢;simp only[fq,I.cells]at ag ⊢;repeat' first|(refine ae ?_;simp only[go_sem,xB,wb,v7,hle,ju])|refine bp ?_|(refine bz ?_ ?_<;>intro h<;>try exact bx h)|fail
  exact aX<|.of hW
 ·repeat' first|(refine ae ?_;simp only[go_sem,hJ])|refine bp ?_|(refine bz ?_ ?_<;>intro h<;>try exact bx h)|fail
  ·exact bJ<|.of rfl
  ·exfalso;simp at h;exact vU h
theorem YP{f:Bool}(q:h8 1048576 (.sl f<|l.map da))(h:∀o∈l,BQ o):(∀o∈l,lX o)/\l.length<=1048576:=by
 refine⟨λo J=>?_,by have:=q.aDa.1;rwa[dq]at this⟩
 have aM:=(q.aDa.2 (da o) (BF J)).aMW;exact⟨(aM (.str o.call.path) (by simp[da,cy])).NV,(aM (.str o.call.to) (by simp[da,cy])).NV,(aM (.str o.call.data) (by simp[da,cy])).NV,(h o J).n,(h o J).pick,(aM (.str o.cC) (by simp[da,cy])).NV⟩
theorem aFm(s:Int)(f:Bool)(l:List Ord)(q:h8 1048576 (.sl f<|l.map da))(H:ab):aO prog 7 [.int .u16 s,.sl f<|l.map da] H (.bool true):=by
 refine xX λk1 k2=>?_;obtain⟨h1,h2⟩:=YP q λo J=>⟨(HK (Of k2 o J _ (by simp:I.int .i64 o.call.n∈_))).2,(HK (Of k2 o J _ (by simp:I.int .i64 o.pick∈_))).2⟩
 exact aId s f l h1 h2 H
section
open Go.ChangeShapes Go.WideShapes Go.ChangeAt Go.RowKit
theorem aLr:n5 prog 76=false:=ma
theorem YQ{x:I}(h:∃ys,x=mF prog 76 ys/\jW prog 76 ys/\(n5 prog 76=true\/ys.length=1)):∃n,x=.int .u16 n:=by obtain⟨ys,rfl,h,_⟩:=h;obtain⟨n,rfl,hw⟩:=EJ underlying76 h;exact⟨n,by rw[mF,ar<|by rw[aLr];decide];rfl⟩
end
end Go.Proofs.YtnmamncmpklliaaGreatDoor
