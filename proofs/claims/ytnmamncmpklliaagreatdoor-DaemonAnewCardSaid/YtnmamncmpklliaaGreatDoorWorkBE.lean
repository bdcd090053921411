/- What the functions of this seat answer (31 of 53). No condition. -/
import Derived.Test.YtnmamncmpklliaaGreatDoorWorkBC
import Derived.Test.YtnmamncmpklliaaGreatDoorWorkBD
set_option linter.unusedSimpArgs false
set_option linter.unusedVariables false
set_option maxRecDepth 100000
set_option maxHeartbeats 16000000
namespace Go.Proofs.YtnmamncmpklliaaGreatDoor
variable{s p:ag}{n:Int}{k:Nat}
open Go.Proofs.Tryz
def hz(s:ag)(n:Int):Option (ag×Nat):=
 if n<1\/1000000<n then none else
 (mW (sf s<|pK n.toNat)).bind fun(c,_)=>(xP c).bind λb=>(e9 b).bind fun(_,aO)=>(mW aO).bind fun(p,_)=>
  if(gG n p).2=0/\qB (gG n p).1 s=true then some (p,(gG n p).1.length / 16)else none
def Lq(s:ag)(n:Int):I:=match hz s n with
 |none=>.aQ [.str [],.int .i64 0,.bool false]
 |some (p,k)=>.aQ [.str p,.int .i64 k,.bool true]
def mL:Nat->ag->Int->List ag×Nat
 |0,_,_=>([],0)
 |f+1,s,n=>match hz s n with
  |none=>([],0)
  |some (p,k)=>(p::(mL f (s.drop<|16 * k) (n+1)).1,k+(mL f (s.drop<|16 * k) (n+1)).2)
def pc(s:ag)(n:Int):List ag×Nat:=mL s.length s n
theorem VU:∀l:List ag,(l.map I.str).flatMap I.cells=l.map I.str
 |[]=>rfl
 |a::l=>by rw[dz,nj,VU l];rfl
theorem aDP(s:ag)(m:UInt8):(sf s m).length<=s.length:=by
 unfold sf;split
 ·simp
 ·split
  ·rename_i h;rw[Ni h];have:=(J2 (ti m s) (l:=List.range<|s.length / 16)).length_le;rw[Bh]at this;unfold jW at h;omega
  ·simp
theorem aFM{t:ag}(h:xP s=some t):t.length<=s.length:=by
 unfold xP at h;split at h
 ·cases h
 ·split at h
  ·cases h;simp
  ·cases h
theorem Va(n:Int)(p:ag)(h:(gG n p).2=0):(gG n p).1.length=16 * ((gG n p).1.length / 16)/\1<=(gG n p).1.length / 16:=by
 have ad:=U8 n p h;have hl:=pe.2 ad;unfold gG at h hl ⊢;split at h
 ·simp at h
 ·rename_i J;rw[aj J]at hl ⊢;simp only at hl ⊢;have al:(hg n.toNat p).length=16 * (lY (l1 n.toNat p)).length:=by unfold hg;exact yx _ _<|AL _ _ (bd _)
  omega
theorem xr(h:hz s n=some (p,k)):1<=k/\16 * k<=s.length/\1<=n/\n<=1000000/\(gG n p).2=0/\p.length<=40000:=by
 unfold hz at h;split at h
 ·cases h
 ·rename_i af;simp only[ni]at h;obtain⟨⟨c,K⟩,h1,b,h2,⟨v,aO⟩,h3,⟨q,O⟩,h4,h⟩:=h;simp only at h;split at h
  ·rename_i J;cases h;obtain⟨av,al⟩:=Va n p J.1;have U:=J.2;unfold qB at U;simp only[cV,gU]at U;refine⟨al,iV,iV,iV,J.1,?_⟩
   have:=J.1;unfold gG at this;split at this
   ·simp at this
   ·omega
  ·cases h
theorem aFN:∀(f g:Nat) (s:ag) (n:Int),s.length<=f->s.length<=g->mL f s n=mL g s n:=by
 intro f;induction f with
 |zero=>
  intro g s n h _;have hs:s=[]:=iO iV
  subst hs;cases g with
  |zero=>rfl
  |succ g=>
   rw[mL,mL];cases ah:hz [] n with
   |none=>rfl
   |some q=>have:=xr (p:=q.1) (k:=q.2) ah;simp at this;omega
 |succ f J=>
  intro g s n h K;rw[mL];cases ah:hz s n with
  |none=>
   cases g with
   |zero=>rfl
   |succ g=>rw[mL,ah]
  |some q=>
   obtain⟨p,k⟩:=q;have hk:=xr ah;obtain⟨g,rfl⟩:∃U,g=U+1:=⟨g-1,iV⟩
   rw[mL,ah];simp only;rw[J g (s.drop<|16 * k) (n+1) nX nX]
theorem Vb(h:hz s n=none):pc s n=([],0):=by
 unfold pc;cases hl:s.length with
 |zero=>rfl
 |succ k=>rw[mL,h]
theorem Vc(h:hz s n=some (p,k)):pc s n=(p::(pc (s.drop<|16 * k) (n+1)).1,k+(pc (s.drop<|16 * k) (n+1)).2):=by
 have hk:=xr h;unfold pc;obtain⟨g,J⟩:∃g,s.length=g+1:=⟨s.length-1,iV⟩
 rw[J,mL,h];simp only;rw[aFN g (s.drop<|16 * k).length (s.drop<|16 * k) (n+1) nX (bd _)]
theorem Xj(s:ag)(n:Int)(hs:s.length<=1073741824)(H:ab):aM prog 155 [.str s,.int .i64 n] H (Lq s n):=by
 refine aZ func155 ?_;unfold Lq hz;by_cases V:n<1\/1000000<n
 ·have J:(decide (n<1)||decide (1000000<n))=true:=nX
  rw[aA V];refine hH ?_;all_goals first|exact bD (.refl _)|(exfalso;simp at *;omega)
 have J:(decide (n<1)||decide (1000000<n))=false:=nX
 rw[aj V];obtain⟨m,rfl⟩:∃m:Nat,n=m:=⟨n.toNat,iV⟩
 have vK:=Xc m iV
 have hw:=aGP s (pK m) hs;have xo:=aDP s<|pK m;rw[e5];generalize pK m=mk at *;generalize sf s mk=W at *;have h1:=FX W iV
 unfold zC at h1;cases av:mW W with
 |none=>
  rw[av]at h1;simp only at h1;repeat' first|((first|refine cx (hw _) ?_|refine ae ?_);simp only[go_sem,J])|refine ao ?_|fail
  exact bD<|.refl _
 |some aP=>
 obtain⟨c,a6⟩:=aP;rw[av]at h1;simp only[fZ]at h1 ⊢;have ca:=vo av;have h2:=aJv c iV
 unfold DV at h2;cases al:xP c with
 |none=>
  rw[al]at h2;simp only at h2;repeat' first|((first|refine cx (hw _) ?_|refine ae ?_);simp only[go_sem,J])|refine ao ?_|fail
  exact bD<|.refl _
 |some b=>
 rw[al]at h2;simp only[fZ]at h2 ⊢;have cy:=aFM al;have h3:=FW b iV
 unfold xM at h3;cases K:e9 b with
 |none=>
  rw[K]at h3;simp only at h3;repeat' first|((first|refine cx (hw _) ?_|refine ae ?_);simp only[go_sem,J])|refine ao ?_|fail
  exact bD<|.refl _
 |some bH=>
 obtain⟨v,aO⟩:=bH;rw[K]at h3;simp only[fZ]at h3 ⊢;have ku:=ml K;have h4:=FX aO iV
 unfold zC at h4;cases O:mW aO with
 |none=>
  rw[O]at h4;simp only at h4;repeat' first|((first|refine cx (hw _) ?_|refine ae ?_);simp only[go_sem,J])|refine ao ?_|fail
  exact bD<|.refl _
 |some cC=>
 obtain⟨p,bf⟩:=cC;rw[O]at h4;simp only[fZ]at h4 ⊢;have th:=vo O;have Z:=Ks m p iV
 have U:=Yq s (gG m p).1;have I:=N6 m p;obtain⟨q,aJ⟩:∃q,gG (m:Int) p=q:=⟨_,rfl⟩;rw[aJ]at Z U I ⊢;obtain⟨T,e⟩:=q;simp only at Z U I ⊢;have EO:IntKind.i64.wrap ((T.length:Int).tdiv 16)=((T.length / 16:Nat):Int):=by rw[zk iV,bI];omega
 by_cases he:e=0
 ·subst he;cases z:qB T s with
  |false=>
   rw[z]at U;rw[aj kk]
   repeat' first|((first|refine cx (hw _) ?_|refine ae ?_);simp only[go_sem,J])|refine ao ?_|fail
   exact bD<|.refl _
  |true=>
   rw[z]at U;rw[aA ⟨rfl,rfl⟩];repeat' first|((first|refine cx (hw _) ?_|refine ae ?_);simp only[go_sem,J,EO])|refine ao ?_|fail
   exact bD<|.refl _
 ·have hd:decide (e=0)=false:=bN he;rw[aj (λh=>he h.1)]
  repeat' first|((first|refine cx (hw _) ?_|refine ae ?_);simp only[go_sem,J,hd])|refine ao ?_|fail
  exact bD<|.refl _
theorem aMC(s:ag)(n:Int)(hs:s.length<=1073741824)(af:0<=n/\n<=1000001)(H:ab):aM prog 106 [.str s,.int .i64 n] H (.aQ [.sl false ((pc s n).1.map I.str),.int .i64 (pc s n).2]):=by
 refine aZ func106 ?_;refine hH ?_;refine y2 6 1 rfl ?_;obtain⟨Z,K⟩:∃Z,pc s n=Z:=⟨_,rfl⟩;rw[K];refine cE (ι:=List ag×Nat×ab) (λx=>[(0,.str s),(1,.int .i64<|n+x.1.length),(6,.osl 1 H.length (x.1.length+1) 0 x.1.length x.1.length),(7,.int .i64 x.2.1)]) (λx=>H++(.cells (x.1.length+1) (x.1.map I.str)::x.2.2))
  (λx=>16 * x.2.1<=s.length/\x.1.length<=x.2.1/\n+x.1.length<=1000001/\Z=(x.1++(pc (s.drop<|16 * x.2.1) (n+x.1.length)).1,x.2.1+(pc (s.drop<|16 * x.2.1) (n+x.1.length)).2)) (λx=>s.length-16 * x.2.1) ([],0,[]) ⟨kk,kk,by simpa using af.2,by simp[<-K]⟩ ?_ rfl ?_
 ·simp[go_sem]
 rintro⟨l,c,M⟩ ⟨h1,h2,h3,h4⟩;simp only at h1 h2 h3 h4 ⊢;obtain⟨G,aW⟩:∃G,H++(.cells (l.length+1) (l.map I.str)::M)=G:=⟨_,rfl⟩;rw[aW];have g0:ay G H.length=.cells (l.length+1) (l.map I.str):=by rw[<-aW];simp only[go_sem]
 have g1:=bC g0 trivial;have g2:=gN g0 trivial;have gs:∀X,ar G H.length X=H++(X::M):=λX=>by rw[<-aW];simp only[go_sem]
 have O:IntKind.i64.wrap ((c:Int) * 16)=((16 * c:Nat):Int):=by rw[bI];omega
 have ah:=Xj (s.drop (16 * c)) (n+l.length) nX
 unfold Lq at ah;have T:((0:Int)<=((16 * c:Nat):Int)/\((16 * c:Nat):Int)<=(s.length:Int))=True:=b5 ⟨iV,iV⟩
 cases U:hz (s.drop<|16 * c) (n+l.length)with
 |none=>
  rw[U]at ah;rw[Vb U]at h4;simp only[cA,rJ]at h4;subst h4;simp only at ah ⊢;refine hH ?_;refine⟨_,.aQ [.sl false (l.map I.str),.int .i64 c],aW.symm,.aQ _ _ rfl<|dj ?_ (dj (.cl _ (.int _ _)) fw),rfl⟩;exact q3 (es:=l.map I.str) (rest:=[]) (bd _) g0 (by rw[cA,VU]) kk (λe he=>by obtain⟨y, -,rfl⟩:=bJ.1 he;rfl) (λe he=>by obtain⟨y, -,rfl⟩:=bJ.1 he;simp only[go_sem])
 |some q=>
  obtain⟨p,k⟩:=q;rw[U]at ah;rw[Vc U]at h4;obtain⟨k1,k2,k3,k4,h9,o1⟩:=xr U;simp only[fT]at k2;simp only at ah;have J:(∀e:I,e=I.str p->e.cells.length=1)=True:=b5 λe h=>by rw[h];rfl
  have V:((l.length+1) * 16<=140737488355328)=True:=b5 iV
  have z:IntKind.i64.wrap ((c:Int)+(k:Int))=((c+k:Nat):Int):=by rw[bI];omega
  have xn:IntKind.i64.wrap (n+(l.length:Int)+1)=n+((l.length+1:Nat):Int):=by rw[bI];omega
  repeat' first|(refine ae ?_;simp only[go_sem,O,T,h1,J,V,g0,g1,g2,z,xn])|refine ao ?_|fail
  refine⟨(l++[p],c+k,M),⟨by simp only;omega,by simp only[bF,cg,eg];omega,by simp only[bF,cg,eg];omega,?_⟩,by simp only;omega,⟨kk,kk,rfl⟩,by rw[gs];simp⟩
  rw[h4,sD,show 16 * c+16 * k=16 * (c+k) by omega]
  simp[tC,Int.add_assoc]
end Go.Proofs.YtnmamncmpklliaaGreatDoor
