/- What the functions of this seat answer (6 of 53). No condition. -/
import Derived.Test.YtnmamncmpklliaaGreatDoorWorkAE
set_option linter.unusedSimpArgs false
set_option linter.unusedVariables false
set_option maxRecDepth 100000
set_option maxHeartbeats 16000000
namespace Go.Proofs.YtnmamncmpklliaaGreatDoor
variable{α:Type}{s:ag}{acc:List Int}{pos:Nat}
open Go.Proofs.Tryz
def qB(p s:ag):Bool:=decide (p.length<=s.length)&&decide (s.take p.length=p)
def j8(c:Int):I:=.int .i32 c
def pr(s:ag):Nat->Nat->Option (List Int)
 |0,pos=>if pos<s.length then none else some []
 |k+1,pos=>if pos<s.length then
   if(!decide (((jB s pos).1:Int)=65533))=true\/qB [239,191,189] (s.drop pos)=true then(pr s k (pos+(jB s pos).2)).map (((jB s pos).1:Int)::·)else none
  else some []
def tp(s:ag):Option (List Int):=pr s s.length 0
theorem Tk(s:ag)(pos:Nat):1<=(jB s pos).2:=by
 unfold jB Utf8.decode;simp only[];repeat' split
 all_goals simp
def eT{α:Type}(p:α->Bool):List α->Int
 |[]=> -1
 |x::l=>if p x=true then 0 else if eT p l= -1 then-1 else eT p l+1
theorem Ju(p:α->Bool)(l:List α): -1<=eT p l:=by
 induction l with
 |nil=>simp[eT]
 |cons x l J=>unfold eT;(repeat' split)<;>omega
theorem Jf(p:α->Bool)(l:List α):decide (0<=eT p l)=l.any p:=by
 induction l with
 |nil=>simp[eT]
 |cons x l J=>
  have:=Ju p l;unfold eT;rw[List.any_cons,<-J];by_cases h:p x=true
  ·simp[h]
  ·rw[aj h];have:p x=false:=by simpa using h
   rw[this,Bool.false_or];by_cases h2:eT p l= -1
   ·simp[h2]
   ·rw[aj h2,pf];simp;omega
theorem FU(p:α->Bool)(l:List α)(i:Nat)(hi:i<l.length)(h:∀k (hk:k<i),p (l[k]'(by omega))=false)(ad:p l[i]=true):eT p l=i:=by
 induction l generalizing i with
 |nil=>simp at hi
 |cons x l J=>
  cases i with
  |zero=>simp at ad;simp[eT,ad]
  |succ i=>
   have aw:=h 0 iV
   simp at aw;have h1:=J i (by simpa using hi) (λk hk=>by simpa using h (k+1) iV)<|by simpa using ad
   unfold eT;rw[aw,h1];simp
theorem FV(p:α->Bool)(l:List α)(h:∀k (hk:k<l.length),p l[k]=false):eT p l= -1:=by
 induction l with
 |nil=>rfl
 |cons x l J=>
  have aw:=h 0 kk
  simp at aw;unfold eT;rw[aw,J λk hk=>h (k+1)<|by simpa using hk]
  rfl
def Kl(c:Int):Bool:=decide (c<32)||decide (c=47)||decide (c=127)
def sn(s:ag):Bool:=
 match tp s with
 |some l=>bif (decide ((l.length:Int)<1)||decide (20<(l.length:Int))||decide (s=[46])||decide (s=[46,46]))then false else !l.any Kl
 |none=>false
theorem aKv(s p:ag)(H:ab):aM prog 225 [.str s,.str p] H (.bool<|qB p s):=by
 refine aZ func225 ?_;repeat' first|(refine ae ?_;simp only[go_sem])|refine bt ?_|(refine bB ?_ ?_<;>intro h<;>try exact bA h)|fail
 exact bD<|.of (by simp only[qB,Int.ofNat_le])
theorem Yq(s p:ag)(H:ab):aM prog 196 [.str s,.str p] H (.bool<|qB p s):=by
 refine aZ func196 ?_;repeat' first|((first|refine cx (aKv _ _) ?_|refine ae ?_);simp only[go_sem])|refine ao ?_|fail
 exact bD<|.refl _
theorem aGt(c:Int)(H:ab):aM prog 286 [.int .i32 c] H (.bool<|Kl c):=by
 refine aZ func286 ?_;refine aW ?_;exact bD<|.refl _
theorem aFe(b:Bool)(l:List Int)(J:I)(p:Int->Bool)(H:ab)(T:∀c,x6 prog J [.int .i32 c] H (.bool<|p c)):
  aM prog 325 [.sl b (l.map j8),J] H (.int .i64<|eT p l):=by
 refine po λV _=>?_
 have hl:=oi V;rw[cv]at hl;refine aZ func325 ?_;refine aW ?_;refine cE (ι:=Nat) (λi=>[(0,.sl b<|l.map j8),(1,J),(7,.int .i64 l.length),(8,.int .i64 i)]) (λ_=>H) (λi=>i<=l.length/\∀k (hk:k<i) (O:k<l.length),p l[k]=false) (λi=>l.length-i) 0 ⟨bW _,λk hk=>iV⟩ ?_ rfl ?_
 ·simp[go_sem]
 ·rintro i ⟨hi,U⟩;by_cases K:i<l.length
  ·have ad:=di j8 K;repeat' first|(refine ae ?_;simp only[go_sem,ad,j8])|refine bt ?_|(refine bB ?_ ?_<;>intro h<;>try exact bA h)|fail
   refine Oa (T _) ?_;simp only[go_sem];repeat' first|refine aW ?_|(refine bB ?_ ?_<;>intro h<;>try exact bA h)|fail
   ·exact bD<|.of (by rw[FU p l i K (λk hk=>U k hk iV) h])
   ·refine⟨i+1,⟨K,λk hk O=>?_⟩,iV,by rw[bI];rfl⟩
    by_cases e:k=i
    ·subst e;exact h
    ·exact U k iV O
  ·have Z:i=l.length:=iV
   repeat' first|(refine ae ?_;simp only[go_sem])|refine bt ?_|(refine bB ?_ ?_<;>intro h<;>try exact bA h)|fail
   subst Z;exact bD<|.of (by rw[FV p l λk hk=>U k hk hk])
theorem aFf(b:Bool)(l:List Int)(U:I)(p:Int->Bool)(H:ab)(K:∀c,x6 prog U [.int .i32 c] H (.bool<|p c)):
  aM prog 285 [.sl b (l.map j8),U] H (.bool<|l.any p):=by
 refine aZ func285 ?_;have J:=aFe b l U p H K;repeat' first|((first|refine jg J ?_|refine ae ?_);simp only[go_sem])|refine ao ?_|fail
 exact bD<|.of (by rw[Jf])
theorem MO(s:ag):∀(k j pos:Nat),s.length<=pos+k->s.length<=pos+j->pr s k pos=pr s j pos
 |0,0,pos,_,_=>rfl
 |0,j+1,pos,h1,_=>by unfold pr;rw[aj iV,aj iV]
 |k+1,0,pos,_,h2=>by unfold pr;rw[aj iV,aj iV]
 |k+1,j+1,pos,h1,h2=>by
  have:=Tk s pos;unfold pr;rw[MO s k j _ iV iV]
def Gd(s:ag)(acc:List Int)(pos:Nat):Option (List Int):=(pr s (s.length-pos) pos).map (acc++·)
theorem aEi(h:¬pos<s.length):Gd s acc pos=some acc:=by
 unfold Gd;rw[MO s _ 0 pos iV iV]
 simp[pr,h]
theorem aDp(h:pos<s.length):Gd s acc pos=
  if(!decide (((jB s pos).1:Int)=65533))=true\/qB [239,191,189] (s.drop pos)=true then Gd s (acc++[((jB s pos).1:Int)]) (pos+(jB s pos).2)else none:=by
 have hw:=Tk s pos;unfold Gd;rw[MO s _ (s.length-pos-1+1) pos iV iV]
 conv=>lhs;unfold pr
 rw[aA h];split
 ·rw[MO s (s.length-pos-1) (s.length-(pos+(jB s pos).2)) _ iV iV]
  cases pr s (s.length-(pos+(jB s pos).2)) (pos+(jB s pos).2)<;>simp
 ·rfl
def GM(r:Option (List Int)):I:=
 match r with
 |some l=>.aQ [.sl false (l.map j8),.bool true]
 |none=>.aQ [.sl false [],.bool false]
theorem Od(n:Nat)(k:IntKind):(List.replicate n (I.int k 0)).flatMap I.cells=List.replicate n (I.int k 0):=by
 induction n with
 |zero=>rfl
 |succ n J=>rw[zo,nj,J];rfl
theorem MY(A:List I)(m:Nat)(z x:I):dq (A++List.replicate (m+1) z) A.length [x]=(A++[x])++List.replicate m z:=by
 simp[dq,zo]
def Pa(s:ag)(x:Nat×List Int):ab:=[.cells 1 (x.2.map j8++List.replicate (s.length-x.2.length) (I.int .i32 0)),.mB s x.1]
theorem Wp(s:ag)(hs:s.length<=1073741824)(H:ab):aM prog 223 [.str s] H (GM<|tp s):=by
 refine aZ func223 ?_;repeat' first|(refine ae ?_;simp only[go_sem])|refine bt ?_|(refine bB ?_ ?_<;>intro h<;>try exact bA h)|fail
 refine cE (ι:=Nat×List Int) (λx=>[(0,.str s),(4,.osl 1 H.length 1 0 x.2.length s.length),(5,.bool true),(12,.iter<|H.length+1)]) (λx=>H++Pa s x)
  (λx=>Gd s x.2 x.1=tp s/\x.2.length<=x.1) (λx=>s.length+4-x.1) (0,[]) ?_ ?_ ?_ ?_
 ·refine⟨?_,bd _⟩;show(pr s (s.length-0) 0).map _=_;rw[tp,Nat.sub_zero];cases pr s s.length 0<;>simp
 ·simp[go_sem]
 ·simp[Pa,Od]
 ·rintro⟨pos,acc⟩ ⟨h1,h2⟩;simp only[Pa]at h1 h2 ⊢;by_cases T:pos<s.length
  ·have aN:¬acc.length=s.length:=iV
   have hlen:(acc.map j8).length=acc.length:=cv ..;obtain⟨m,hm⟩:∃m,s.length-acc.length=m+1:=⟨s.length-acc.length-1,iV⟩
   have qj:s.length-(acc.length+1)=m:=iV
   have hw:=Tk s pos;have U:=aDp (acc:=acc) T;rw[h1]at U;repeat' first|((first|refine cx (Yq _ _) ?_|refine ae ?_);simp only[go_sem,T,aN])|refine bt ?_|(refine bB ?_ ?_<;>intro h<;>try exact bA h)|fail
   ·rw[aA (.inl h)]at U;refine⟨⟨by rw[zl];omega,iV,λe he=>by rw[he];rfl⟩,(pos+(jB s pos).2,acc++[((jB s pos).1:Int)]),⟨U.symm,nX⟩,nX,kk,?_⟩
    have K:=MY (acc.map j8) m (.int .i32 0)<|.int .i32 (jB s pos).1;rw[hlen]at K;simp[hm,qj,j8]at K ⊢;exact K
   ·rename_i _ b4 V;exact Bool.noConfusion<|b4.symm.trans V
   ·rw[aA (.inr h)]at U;refine⟨⟨by rw[zl];omega,iV,λe he=>by rw[he];rfl⟩,(pos+(jB s pos).2,acc++[((jB s pos).1:Int)]),⟨U.symm,nX⟩,nX,kk,?_⟩
    have K:=MY (acc.map j8) m (.int .i32 0)<|.int .i32 (jB s pos).1;rw[hlen]at K;simp[hm,qj,j8]at K ⊢;exact K
   ·rename_i _ V nv;rw[aj (by rw[V,nv];simp)]at U
    rw[U];exact aV<|.aQ _ _ rfl (c6 (.sl _ _) (c6 (.refl _) kZ))
  ·refine hH ?_;rw[<-h1,aEi T];refine⟨_,_,rfl,?_,rfl⟩;refine .aQ _ _ rfl λi x y J O=>?_
   match i,J,O with
   |0,J,O=>
    cases J;cases O;refine .osl 1 H.length 1 0 acc.length s.length (acc.map j8++List.replicate (s.length-acc.length) (I.int .i32 0)) _ (bd _) (by simp[go_sem]) kk kk (λe he=>?_) (λk j e x y hk Z J=>?_)
    ·obtain⟨c,_,rfl⟩:=bJ.1 he;rfl
    ·rw[mF,hC]at hk;obtain⟨c,au,rfl⟩:=hk;have z:j=0:=by
      have:=(cj.1 Z).1;simp[j8,I.cells]at this;exact this
     subst z;have nA:=(cj.1 au).1;simp only[j8,I.cells,List.getElem?_cons_zero,Option.some.injEq]at Z;subst Z;rw[me,rJ,j9,iP (by simpa using nA),mF,au]at J
     cases J;exact .cl _<|.int _ _
   |1,J,O=>cases J;cases O;exact .cl _<|.bool _
   |i+2,J,_=>simp at J
theorem Nx(s:ag)(hs:s.length<=1073741824)(H:ab):aM prog 243 [.str s] H (.bool<|sn s):=by
 refine aZ func243 ?_;have J:=Wp s hs H;have U:∀l:List Int,aM prog 285 [.sl false (l.map j8),.func (.func 286) [] []] H (.bool<|l.any Kl):=λl=>aFf false l _ Kl H λc=>.mk (first:=[]) (cap:=[]) (λL=>aGt c<|H++L) aK
 unfold sn;cases K:tp s with
 |none=>
  rw[K]at J;simp only[GM]at J;repeat' first|((first|refine jg J ?_|refine hY (U _) aK ?_|refine kf (U _) aK ?_|refine kg (λ_=>U _) aK ?_|refine ae ?_);simp only[go_sem])|refine ao ?_|fail
  exact bD<|.refl _
 |some l=>
  rw[K]at J;simp only[GM]at J;repeat' first|((first|refine jg J ?_|refine hY (U _) aK ?_|refine kf (U _) aK ?_|refine kg (λ_=>U _) aK ?_|refine ae ?_);simp only[go_sem])|refine bt ?_|(refine bB ?_ ?_<;>intro h<;>try exact bA h)|fail
  ·exact bD<|.of (by simp only[h,tG])
  ·exact bD<|.of (by simp only[h,sI])
def hD(o:aX):Prop:=o.name.length<=1073741824/\o.data.length<=1073741824
def tS(o:aX):Bool:=fV o.node&&dm o.parent&& !vi o.at_.c o.at_.r o.parent&&sn o.name&&decide (o.data=[])
def ve(o:aX):Bool:=fV o.node&&xD o.node&&decide ((o.data.length:Int)<=64)&&decide (o.parent=0)&&decide (o.name=[])
def b0(o:aX):Bool:=(decide (o.kind=1)||decide (o.kind=2))&&o8 o.at_.c o.at_.r&& !vi o.at_.c o.at_.r o.node&&(if o.kind=1 then tS o else ve o)
theorem aIk(o:aX)(hs:hD o)(H:ab):aM prog 354 [bh o] H (.bool<|tS o):=by
 refine aZ func354 ?_;have J:=hs.1;simp only[bh];repeat' first|((first|refine cx (yo _) ?_|refine cx (uV _) ?_|refine cx (OX _ _ _) ?_|refine hY (Nx _ (by first|assumption|decide|omega|(simp_all;done)|(simp_all;omega)) _) aK ?_|refine kf (Nx _ (by first|assumption|decide|omega|(simp_all;done)|(simp_all;omega)) _) aK ?_|refine kg (λ_=>Nx _ (by first|assumption|decide|omega|(simp_all;done)|(simp_all;omega)) _) aK ?_|refine ae ?_);simp only[go_sem])|refine ao ?_|fail
 exact aV<|.refl _
theorem aIl(o:aX)(H:ab):aM prog 356 [bh o] H (.bool<|ve o):=by
 refine aZ func356 ?_;simp only[bh];repeat' first|((first|refine cx (yo _) ?_|refine ae ?_);simp only[go_sem])|refine ao ?_|fail
 exact aV<|.refl _
theorem Dd(o:aX)(hs:hD o)(H:ab):aM prog 39 [bh o] H (.bool<|b0 o):=by
 refine aZ func39 ?_;have hk:=Oc o;have hm:=aIk o hs;have hw:=aIl o;simp only[bh]at hk hm hw ⊢;by_cases h1:o.kind=1
 ·simp only[h1,dG]at hk hm ⊢;repeat' first|((first|refine cx (CZ _ _) ?_|refine cx (OX _ _ _) ?_|refine oK (hm _) aK ?_|refine oL (λ_=>hm _) aK ?_|refine oM (λ_=>hm _) aK ?_|refine ae ?_);simp only[go_sem])|refine ao ?_|fail
  exact aV<|.of (by simp[b0,h1])
 ·by_cases h2:o.kind=2
  ·simp only[h2,dG,gz,Int.reduceEq]at hk hw ⊢;repeat' first|((first|refine cx (CZ _ _) ?_|refine cx (OX _ _ _) ?_|refine oK (hw _) aK ?_|refine oL (λ_=>hw _) aK ?_|refine oM (λ_=>hw _) aK ?_|refine ae ?_);simp only[go_sem])|refine ao ?_|fail
   exact aV<|.of (by simp[b0,h1,h2])
  ·simp only[h1,h2,gz]at hk;repeat' first|(refine ae ?_;simp only[go_sem])|refine bt ?_|(refine bB ?_ ?_<;>intro h<;>try exact bA h)|fail
   exact aV<|.of (by simp[b0,h1,h2])
end Go.Proofs.YtnmamncmpklliaaGreatDoor
