/- What functions answer. No condition. -/
import Derived.Test.YtnmamncmpklliaaGreatDoorWorkI
import Derived.Test.YtnmamncmpklliaaGreatDoorWorkL
set_option linter.unusedSimpArgs false
set_option linter.unusedVariables false
set_option linter.unusedSectionVars false
set_option maxRecDepth 100000
set_option maxHeartbeats 16000000
namespace Go.Proofs.YtnmamncmpklliaaGreatDoor
variable{o:bk}{b r:al}{t:TypeId}{α:Type}{n:Int}{i N:Nat}{H G:ab}{ops:Array Oper}{Q:c3}{P:Program}
open Go.Proofs.Tryz
def jB(o:bk):al:=bT o.at_.c.toNat++(bT o.at_.r.toNat++(bT o.kind.toNat++(bT o.node.toNat++(if o.kind=1 then bT o.parent.toNat++dj o.name else dj o.data))))
def tQ(b:al)(o:bk):al×Int:=if cp o=true then(b++jB o,0)else([],50)
theorem W9(h:cp o=true):(o.kind=1\/o.kind=2)/\(0<=o.at_.c/\o.at_.c<=1048576)/\(0<=o.at_.r/\o.at_.r<=63)/\(0<=o.node/\o.node<=134217856)/\(o.kind=1->0<=o.parent/\o.parent<=134217856):=by
 unfold cp pC vr w9 at h;simp only[dp,Bool.or_eq_true,iK]at h;obtain⟨⟨⟨hk,h1⟩, -⟩,h2⟩:=h;have af:gd o.node=true:=by
  split at h2
  ·simp only[dp]at h2;exact h2.1.1.1.1
  ·simp only[dp]at h2;exact h2.1.1.1.1
 have af:=BB.1 af;refine⟨hk,gf,gf,gf,λh=>?_⟩;rw[aC h]at h2;simp only[dp]at h2;have hd:=h2.1.1.1.2;unfold dv gd at hd;simp only[dp,Bool.or_eq_true,iK]at hd;omega
theorem aJj(b:al)(n m k j:Nat)(f:Bool)(af:n<=9223372036854775807)(hm:m<=9223372036854775807)(hk:k<=9223372036854775807)(U:j<=9223372036854775807)(J:b.length+36<=140737488355328)(H:ab):
  aO prog 49 [.str b,.sl f [.int .i64 n,.int .i64 m,.int .i64 k,.int .i64 j]] H (.aN [.str (b++(bT n++(bT m++(bT k++bT j)))),.int .i64 0]):=by
 simpa using Yl b [n,m,k,j] f nc (oq J) H
theorem aJk(b:al)(o:bk)(q:Nat)(aM:o.parent=q)(J:q<=9223372036854775807)(af:o.name.length<=1073741824)(U:b.length<=1073741824)(H:ab):aO prog 355 [bt o,.str b] H (.str<|b++(bT q++dj o.name)):=by
 refine bg func355 ?_;have h1:=Be b q true J gf;have O:=jq (n:=q) gf;have h2:=zt (b++bT q) o.name (by rw[bw];omega) gf<|by rw[bw];omega
 simp only[bt,aM];repeat' first|(refine ae ?_;simp only[go_sem])|refine ai ?_|fail
 exact aX<|.refl _
theorem aIQ(b:al)(o:bk)(af:o.data.length<=1073741824)(J:b.length<=1073741824)(H:ab):aO prog 357 [bt o,.str b] H (.str<|b++dj o.data):=by
 refine bg func357 ?_;have h2:=zt b o.data gf gf gf;simp only[bt];repeat' first|(refine ae ?_;simp only[go_sem])|refine ai ?_|fail
 exact aX<|.refl _
theorem YD(b:al)(o:bk)(hs:hR o)(aa:b.length<=1000000000)(H:ab):
  aO prog 122 [.str b,bt o] H (.aN [.str (tQ b o).1,.int .i64 (tQ b o).2]):=by
 refine bg func122 ?_;have S:=DJ o hs;have hk:=OS o;unfold tQ;by_cases T:cp o=true
 ·obtain⟨z,cw,cL,dx,mH⟩:=W9 T;rw[aC T];rw[T]at S;obtain⟨U,ax⟩:∃n:Nat,o.at_.c=n:=⟨o.at_.c.toNat,gf⟩;obtain⟨fr,V⟩:∃n:Nat,o.at_.r=n:=⟨o.at_.r.toNat,gf⟩;obtain⟨J,aU⟩:∃n:Nat,o.kind=n:=⟨o.kind.toNat,gf⟩;obtain⟨O,bf⟩:∃n:Nat,o.node=n:=⟨o.node.toNat,gf⟩;have ad:=aJj b U fr J O true gf gf gf gf gf;have cm:=jq (n:=U) gf;have cT:=jq (n:=fr) gf;have j3:=jq (n:=J) gf;have tq:=jq (n:=O) gf;have cf:(b++(bT U++(bT fr++(bT J++bT O)))).length<=b.length+36:=by simp only[bw];omega
  obtain⟨af,hd⟩:=hs;rcases z with h1|h1
  ·obtain⟨Z,I⟩:∃n:Nat,o.parent=n:=⟨o.parent.toNat,oC<|mH h1⟩;have ag:=aJk (b++(bT U++(bT fr++(bT J++bT O)))) o Z I gf af gf;have cX:b++jB o=b++(bT U++(bT fr++(bT J++bT O)))++(bT Z++dj o.name):=by unfold jB;rw[aC h1,ax,V,aU,bf,I];simp
   rw[cX];generalize b++(bT U++(bT fr++(bT J++bT O)))=B at *;have h3:J=1:=gf;subst h3;simp only[bt,h1,dW]at S hk ag ⊢;simp only[ax,V,bf]at S hk ag ad ⊢;repeat' first|((first|refine oz (ag _) aI ?_|refine oA (λ_=>ag _) aI ?_|refine oB (λ_=>ag _) aI ?_|refine ae ?_);simp only[go_sem])|refine ai ?_|fail
   exact aX<|.refl _
  ·have ag:=aIQ (b++(bT U++(bT fr++(bT J++bT O)))) o hd gf;have ev:¬o.kind=1:=gf;have cX:b++jB o=b++(bT U++(bT fr++(bT J++bT O)))++dj o.data:=by unfold jB;rw[ar ev,ax,V,aU,bf];simp
   rw[cX];generalize b++(bT U++(bT fr++(bT J++bT O)))=B at *;have h3:J=2:=gf;subst h3;simp only[bt,h1,dW,gB,Int.reduceEq]at S hk ag ⊢;simp only[bt,ax,V,bf]at S hk ag ad ⊢;repeat' first|((first|refine oz (ag _) aI ?_|refine oA (λ_=>ag _) aI ?_|refine oB (λ_=>ag _) aI ?_|refine ae ?_);simp only[go_sem])|refine ai ?_|fail
   exact aX<|.refl _
 ·have aA:cp o=false:=oq T;rw[ar T];rw[aA]at S;simp only[bt]at S ⊢;repeat' first|(refine ae ?_;simp only[go_sem])|refine ai ?_|fail
  exact aX<|.refl _
def zv(l:List bk):al×Int:=if l.all cp=true then(l.flatMap jB,0)else([],50)
theorem aK1(o:bk):jB o≠[]:=λh=>by unfold jB bT at h;simp at h
def vw(i m:Nat):I:=if m=0 then .dX else .ref i 0 0
def lb(i m:Nat)(t:al):ab:=[.dc oe 0 [vw i m,.osl 1 (i+1) (m+1) 0 t.length t.length],.dc u6 (m+1)<|ck t]
theorem aIR(i m:Nat):vw i m=.dX\/vw i m=.ref i 0 0:=by unfold vw;split<;>simp
theorem Xa(H L:ab)(m:Nat)(t s:al)(hl:t.length+s.length<=140737488355328):
  cV prog 134 [.ref H.length 0 0,.str s] (H++(lb H.length m t++L)) (λv H'=>v=.aN [.int .i64 s.length,.nilIface]/\H'=H++(lb H.length (m+1) (t++s)++L)):=by
 refine(aM5 (p:=vw H.length m) (i:=H.length) (j:=H.length+1) (k:=m) (t:=t) (s:=s) (by simp[lb]) (aIR _ _) (by simp[lb]) hl).mono ?_
 rintro v H' ⟨rfl,rfl⟩;refine⟨rfl,?_⟩;simp[lb,an,vw]
theorem aIS(H L:ab)(m:Nat)(t:al)(hm:m≠0->t≠[])(ay:m=0->t=[])(hl:t.length<=1000000000000):
  cV prog 135 [.ref H.length 0 0] (H++(lb H.length m t++L)) (λv H'=>v=.str t/\∃B,H'=H++(B++L)/\B.length=2):=by
 by_cases h:m=0
 ·subst h;rw[ay rfl];refine(aMz (i:=H.length) (x:=.osl 1 (H.length+1) 1 0 0 0) (by simp[lb,vw])).mono ?_
  rintro v H' ⟨rfl,rfl⟩;exact⟨rfl,_,rfl,rfl⟩
 ·refine(Zq (p:=vw H.length m) (i:=H.length) (j:=H.length+1) (k:=m+1) (t:=t) (by simp[lb]) (by simp[lb]) gf (hm h) hl).mono ?_
  rintro v H' ⟨rfl,rfl⟩;exact⟨rfl,[.dc oe 0 [vw H.length m,.osl 1 (H.length+1) (m+1) 0 t.length t.length],.gone],by simp[lb,an],rfl⟩
theorem aHN(l:List bk)(f:Bool)(hs:∀o∈l,hR o)(af:l.length<=1000000)(hl:(l.flatMap jB).length<=1000000000)(H:ab):
  aO prog 81 [.sl f (l.map bt)] H (.aN [.str (zv l).1,.int .i64 (zv l).2]):=by
 refine bg func81 ?_;iterate 3 first|(refine ae ?_;simp only[go_sem])|refine ai ?_|fail
 refine Zp (Y:=u6) ma rfl ?_;simp only[go_sem];repeat' first|(refine ae ?_;simp only[go_sem])|refine ai ?_|fail
 refine c7 (ι:=Nat×ab) (λs=>[(4,.ref H.length 0 0),(9,.sl f<|l.map bt),(10,.int .i64 l.length),(11,.int .i64 s.1)]) (λs=>H++(lb H.length s.1 ((l.take s.1).flatMap jB)++s.2)) (λs=>s.1<=l.length/\(l.take s.1).all cp=true) (λs=>l.length-s.1) (0,[]) ⟨cb _,rfl⟩ ?_ rfl ?_
 ·simp[go_sem]
 rintro⟨m,L⟩ ⟨hm,U⟩;simp only at hm U ⊢;by_cases J:m<l.length
 ·have O:=ek bt J;have Z:=hs _<|fQ J;have S:(l.take (m+1)).flatMap jB=(l.take m).flatMap jB++jB l[m]:=by rw[Hj,dn J,qx];simp
  have I:(l.take (m+1)).all cp=(cp l[m]):=by rw[Hj,dn J,Hl,U];simp
  have z:((l.take (m+1)).flatMap jB).length<=(l.flatMap jB).length:=by
   have:l.flatMap jB=(l.take (m+1)).flatMap jB++(l.drop (m+1)).flatMap jB:=by rw[<-qx,sF]
   rw[this,bw];omega
  have ti:cp l[m]=false->l.all cp=false:=λh=>by
   cases ao:l.all cp with
   |false=>rfl
   |true=>rw[fu.1 ao _ (fQ J)]at h;cases h
  obtain⟨o,Sf⟩:∃o,o=l[m]:=⟨_,rfl⟩;rw[<-Sf]at O Z S I ti;rw[S,bw]at z;have ad:=YD [] o Z hW;unfold tQ at ad;have V:decide ((m:Int)<(l.length:Int))=true:=cS;have hw:=eb J gf;obtain⟨T,cX⟩:∃T,(l.take m).flatMap jB=T:=⟨_,rfl⟩;rw[cX]at S z ⊢;have aa:=Xa H (L++[.cells 0 (bt o).cells]) m T (jB o) gf;obtain⟨G,a7⟩:∃G,H++(lb H.length m T++L)=G:=⟨_,rfl⟩;rw[show H++(lb H.length m T++(L++[.cells 0 (bt o).cells]))=G++[.cells 0 (bt o).cells] by rw[<-a7];simp]at aa
  rw[a7];simp only[bt]at O ad;cases hO:cp o with
  |true=>
   rw[hO,aC rfl]at ad;repeat' first|(refine ae ?_;simp only[go_sem,O,V,J])|refine ai ?_|fail
   refine c4 aa aI ?_;rintro v H' ⟨rfl,rfl⟩;simp only[go_sem];repeat' first|(refine ae ?_;simp only[go_sem,hw])|refine ai ?_|fail
   exact⟨(m+1,L++[.cells 0 (bt o).cells]),⟨gf,by rw[I,hO]⟩,by simp only;omega,rfl,by simp only[S]⟩
  |false=>
   rw[hO,ar nofun]at ad;repeat' first|(refine ae ?_;simp only[go_sem,O,V,J])|refine ai ?_|fail
   rw[<-a7,c6];exact aX<|.of (by unfold zv;rw[ti hO];rfl)
 ·have V:decide ((m:Int)<(l.length:Int))=false:=dA;obtain rfl:m=l.length:=gf;rw[fe]at U ⊢;refine hH ?_;have aT:l.length≠0->l.flatMap jB≠[]:=λh h2=>by
   cases l with
   |nil=>exact h rfl
   |cons o l=>exact aK1 o (List.append_eq_nil_iff.1<|by rw[nj]at h2;exact h2).1
  refine c4 (aIS H L l.length (l.flatMap jB) aT (λh=>by rw[iL h];rfl) gf) aI ?_
  rintro v H' ⟨rfl,B,rfl,cf⟩;simp only[go_sem];refine a7 ?_;exact aX<|.of (by unfold zv;rw[aC U])
def H0(b:al):Option ((Int×Int×Int×Int)×al):=
 (dS b).bind fun(c,aW)=>(dS aW).bind fun(r,bA)=>(dS bA).bind fun(k,iv)=>(dS iv).bind fun(dg,iO)=>some ((c,r,k,dg),iO)
def HN(b:al):I:=match pB b with
 |none=>.aN [bt aRF,.str [],.int .i64 50]
 |some (o,r)=>.aN [bt o,.str r,.int .i64 0]
def Qh(b:al):I:=match jC b with
 |none=>.aN [.sl true [],.int .i64 50]
 |some l=>.aN [.sl false (l.map bt),.int .i64 0]
theorem vG{t:al}(h:ix b=some (t,r)):t.length<=b.length/\r.length<b.length:=by
 unfold ix at h;cases J:dS b with
 |none=>rw[J]at h;cases h
 |some p=>
  obtain⟨n,s⟩:=p;rw[J]at h;simp only at h;have:=hg J;split at h
  ·cases h
  ·cases h;rw[gK,hp];omega
theorem aHr(b:al):pB b=(H0 b).bind fun((c,r,k,dg),iO)=>
  if k=1 then(dS iO).bind fun(p,mr)=>(ix mr).bind fun(t,J)=>if cp ⟨⟨c,r⟩,k,dg,p,t,[]⟩=true then some (⟨⟨c,r⟩,k,dg,p,t,[]⟩,J)else none
  else(ix iO).bind fun(t,J)=>if cp ⟨⟨c,r⟩,k,dg,0,[],t⟩=true then some (⟨⟨c,r⟩,k,dg,0,[],t⟩,J)else none:=by
 unfold pB H0;cases dS b with
 |none=>rfl
 |some x=>
  simp only[e6];cases dS x.2 with
  |none=>rfl
  |some y=>
   simp only[e6];cases dS y.2 with
   |none=>rfl
   |some z=>simp only[e6];cases dS z.2<;>rfl
theorem N2(h:pB b=some (o,r)):r.length<b.length:=by
 unfold pB at h;simp only[kv]at h;obtain⟨⟨c,aW⟩,h1,⟨O,bA⟩,h2,⟨k,iv⟩,h3,⟨dg,iO⟩,h4,h⟩:=h;have z:=hg h1;have S:=hg h2;have T:=hg h3;have V:=hg h4;simp only at h S T V;split at h
 ·simp only[kv]at h;obtain⟨⟨p,mr⟩,Z,⟨t,I⟩,J,h⟩:=h;have SZ:=hg Z;have U:=(vG J).2;simp only at h U;split at h
  ·cases h;omega
  ·cases h
 ·simp only[kv]at h;obtain⟨⟨t,I⟩,J,h⟩:=h;have U:=(vG J).2;simp only at h;split at h
  ·cases h;omega
  ·cases h
theorem aEJ:∀(n k:Nat) (b:al),b.length<=n->b.length<=k->oW k b=oW b.length b:=by
 intro n;induction n with
 |zero=>intro k b h _;rw[iL (by omega:b.length=0)];cases k<;>rfl
 |succ n J=>
  intro k b h hk;cases b with
  |nil=>cases k<;>rfl
  |cons x b=>
   rw[cd]at h hk;obtain⟨k,rfl⟩:∃m,k=m+1:=⟨k-1,gf⟩;rw[cd,oW,oW,ar hW,ar hW];cases ag:pB (x::b)with
   |none=>rfl
   |some p=>obtain⟨o,r⟩:=p;have:=N2 ag;rw[cd]at this;simp only[e6];rw[J k r gf gf,J b.length r gf gf]
theorem Vx(h:b≠[]):jC b=(pB b).bind fun(o,r)=>(jC r).map (o::·):=by
 cases b with
 |nil=>exact absurd rfl h
 |cons x b=>
  unfold jC;rw[cd,oW,ar hW];cases ag:pB (x::b)with
  |none=>rfl
  |some p=>obtain⟨o,r⟩:=p;have:=N2 ag;rw[cd]at this;simp only[e6];rw[aEJ _ b.length r (bh _) gf]
theorem aIT{enc:α->I}{s n v k lc:Nat}{D:List α}(af:n<=i)(J:az H i=.cells v (aV enc D))(hk:D.length=k)(hs:∀x,(enc x).cells.length=s)(ad:∀x,b9<|enc x):cJ n H (.osl s i v 0 k lc) (.sl false<|D.map enc):=
 q8 (es:=D.map enc) (rest:=[]) af J (cE _).symm (by rw[dq,hk]) (λe he=>by(obtain⟨x, -,rfl⟩:=bP.1 he;exact hs x)) (λe he=>by(obtain⟨x, -,rfl⟩:=bP.1 he;exact ad x))
theorem aHs(b:al)(T:b.length<=1073741824)(f:Bool)(i:Nat)(J c1 c2 U O S:I)(x:Int)(H:ab)(V:az H i=.cells 0 [J,c1,c2,U,.int .i64 x,O,S]):
  cV prog 109 [.str b,.sl f [.ref i 0 4]] H (λr H'=>(dS b=none/\r=.aN [.str [],.bool false]/\H'=H)\/∃p rest,dS b=some (p,rest)/\r=.aN [.str rest,.bool true]/\H'=an H i (.cells 0 [J,c1,c2,U,.int .i64 p,O,S])):=by
 refine mS func109 ?_;have Z:=cZ V trivial;have s1:=λb=>dK Z b;have s2:=jd H i;have z:IntKind.i64.wrap (0+1)=1:=rfl;have ag:=xR b T;unfold sd at ag;refine a7 ?_;refine sX 2 ?_;unfold pS;cases h1:dS b with
 |none=>simp only[h1]at ag;refine hH ?_;first|trivial|exact .inl trivial|exact .inl ⟨rfl,rfl,rfl⟩
 |some p=>obtain⟨p,rest⟩:=p;simp only[h1]at ag;refine hH ?_;exact .inr ⟨p,rest,rfl,rfl,rfl⟩
theorem aHt(b:al)(aa:b.length<=1073741824)(f:Bool)(i:Nat)(V Z z:I)(yj eQ dV gn:Int)(H:ab)(U:az H i=.cells 0 [.int .i64 yj,.int .i64 eQ,.int .i64 dV,.int .i64 gn,V,Z,z]):
  cV prog 109 [.str b,.sl f [.ref i 0 0,.ref i 0 1,.ref i 0 2,.ref i 0 3]] H (λr H'=>(H0 b=none/\r=.aN [.str [],.bool false]/\∃X,H'=an H i X)\/∃O S fr T rest,H0 b=some ((O,S,fr,T),rest)/\rest.length<=b.length/\r=.aN [.str rest,.bool true]/\H'=an H i (.cells 0 [.int .i64 O,.int .i64 S,.int .i64 fr,.int .i64 T,V,Z,z])):=by
 refine mS func109 ?_;have av:=cZ U trivial;have s1:=λb=>dK av b;have s2:=jd H i;have c5:IntKind.i64.wrap (0+1)=1:=rfl;have cY:IntKind.i64.wrap (1+1)=2:=rfl;have gy:IntKind.i64.wrap (2+1)=3:=rfl;have gz:IntKind.i64.wrap (3+1)=4:=rfl;have own:=(kf U trivial).symm;have J:∀b:al,b.length<=1073741824->∀H,aO prog 99 [.str b] H (sd b):=λb h=>xR b h;unfold sd at J;unfold H0;refine a7 ?_;have ag:=J b aa;refine sX 5 ?_;unfold pS;cases h1:dS b with
 |none=>
  simp only[h1]at ag;repeat' first|(refine ae ?_;simp only[go_sem,U])|refine ai ?_|fail
  first|exact .inl ⟨rfl,_,own⟩|exact .inl ⟨rfl,rfl,_,own⟩|exact .inl ⟨_,own⟩|exact⟨_,own⟩|fail "Q"
 |some p=>
  obtain⟨O,aW⟩:=p;simp only[h1]at ag;have cm:=hg h1;repeat' first|(refine ae ?_;simp only[go_sem,U,s1,s2,c5])|refine ai ?_|fail
  have tf:=J aW gf;cases h2:dS aW with
  |none=>
   simp only[h2]at tf;repeat' first|(refine ae ?_;simp only[go_sem,s1,s2])|refine ai ?_|fail
   first|exact .inl ⟨by simp[h2],rfl,_,rfl⟩|exact .inl ⟨by simp[h2],_,rfl⟩|exact .inl ⟨_,rfl⟩|fail "R"
  |some p=>
   obtain⟨S,bA⟩:=p;simp only[h2]at tf;have cT:=hg h2;repeat' first|(refine ae ?_;simp only[go_sem,s1,s2,cY])|refine ai ?_|fail
   have n2:=J bA gf;cases h3:dS bA with
   |none=>
    simp only[h3]at n2;repeat' first|(refine ae ?_;simp only[go_sem,s1,s2])|refine ai ?_|fail
    first|exact .inl ⟨by simp[h2,h3],rfl,_,rfl⟩|exact .inl ⟨by simp[h2,h3],_,rfl⟩|exact .inl ⟨_,rfl⟩|fail "R"
   |some p=>
    obtain⟨fr,iv⟩:=p;simp only[h3]at n2;have j3:=hg h3;repeat' first|(refine ae ?_;simp only[go_sem,s1,s2,gy])|refine ai ?_|fail
    have C3:=J iv gf;cases h4:dS iv with
    |none=>
     simp only[h4]at C3;repeat' first|(refine ae ?_;simp only[go_sem,s1,s2])|refine ai ?_|fail
     first|exact .inl ⟨by simp[h2,h3,h4],rfl,_,rfl⟩|exact .inl ⟨by simp[h2,h3,h4],_,rfl⟩|exact .inl ⟨_,rfl⟩|fail "R"
    |some p=>
     obtain⟨T,iO⟩:=p;simp only[h4]at C3;have tq:=hg h4;repeat' first|(refine ae ?_;simp only[go_sem,s1,s2,gz])|refine ai ?_|fail
     exact .inr ⟨O,S,fr,T,iO,by simp[h2,h3,h4],gf,rfl,rfl⟩
theorem O8(b:al)(aa:b.length<=1073741824)(H:ab):aO prog 59 [.str b] H (HN b):=by
 refine bg func59 ?_;unfold HN;rw[aHr];refine a7 ?_;refine c4 (aHt b aa true (H.length+1) (.int .i64 0) (.str []) (.str []) 0 0 0 0 _ mZ) aI ?_;rintro v H' (⟨h4,rfl,X,rfl⟩|⟨c,r,k,dg,iO,h4,aPN,rfl,rfl⟩)
 ·rw[h4];simp only[go_sem];refine a7 ?_;exact aX<|.refl _
 rw[h4];simp only[go_sem,e6];have T:=OS ⟨⟨c,r⟩,k,dg,0,[],[]⟩;simp only[bt]at T;by_cases hk:k=1
 ·subst hk;simp only[dW]at T ⊢;repeat' first|(refine ae ?_;simp only[go_sem])|refine ai ?_|fail
  refine c4 (aHs iO gf true (H.length+1) (.int .i64 c) (.int .i64 r) (.int .i64 1) (.int .i64 dg) (.str []) (.str []) 0 _ mZ) aI ?_;rintro v H' (⟨V,rfl,rfl⟩|⟨q,mr,V,rfl,rfl⟩)
  ·rw[V];simp only[go_sem];refine a7 ?_;exact aX<|.refl _
  have ph:=hg V;rw[V];simp only[go_sem,e6];repeat' first|(refine ae ?_;simp only[go_sem])|refine ai ?_|fail
  have U:=zj mr gf;unfold wG at U;cases J:ix mr with
  |none=>
   simp only[J]at U;repeat' first|(refine ae ?_;simp only[go_sem])|refine ai ?_|fail
   exact aX<|.refl _
  |some p=>
   obtain⟨t,Z⟩:=p;simp only[J]at U;have I:=vG J;have O:=DJ ⟨⟨c,r⟩,1,dg,q,t,[]⟩ ⟨by simp only;omega,by simp only[dZ];omega⟩
   simp only[bt,e6]at O ⊢;cases S:cp ⟨⟨c,r⟩,1,dg,q,t,[]⟩with
   |true=>
    rw[S]at O;repeat' first|(refine ae ?_;simp only[go_sem])|refine ai ?_|fail
    exact aX<|.refl _
   |false=>
    rw[S]at O;repeat' first|(refine ae ?_;simp only[go_sem])|refine ai ?_|fail
    exact aX<|.refl _
 ·simp only[ar hk]at T ⊢;by_cases z:k=2
  ·subst z;simp only[dW]at T;repeat' first|(refine ae ?_;simp only[go_sem])|refine ai ?_|fail
   have U:=zj iO gf;unfold wG at U;cases J:ix iO with
   |none=>
    simp only[J]at U;repeat' first|(refine ae ?_;simp only[go_sem])|refine ai ?_|fail
    exact aX<|.refl _
   |some p=>
    obtain⟨t,Z⟩:=p;simp only[J]at U;have I:=vG J;have O:=DJ ⟨⟨c,r⟩,2,dg,0,[],t⟩ ⟨by simp only[dZ];omega,by simp only;omega⟩
    simp only[bt,e6]at O ⊢;cases S:cp ⟨⟨c,r⟩,2,dg,0,[],t⟩with
    |true=>
     rw[S]at O;repeat' first|(refine ae ?_;simp only[go_sem])|refine ai ?_|fail
     exact aX<|.refl _
    |false=>
     rw[S]at O;repeat' first|(refine ae ?_;simp only[go_sem])|refine ai ?_|fail
     exact aX<|.refl _
  ·simp only[ar z]at T;repeat' first|(refine ae ?_;simp only[go_sem])|refine ai ?_|fail
   have U:=zj iO gf;unfold wG at U;cases J:ix iO with
   |none=>
    simp only[J]at U;repeat' first|(refine ae ?_;simp only[go_sem])|refine ai ?_|fail
    exact aX<|.refl _
   |some p=>
    obtain⟨t,Z⟩:=p;simp only[J]at U;have I:=vG J;have O:=DJ ⟨⟨c,r⟩,k,dg,0,[],t⟩ ⟨by simp only[dZ];omega,by simp only;omega⟩
    simp only[bt,e6]at O ⊢;cases S:cp ⟨⟨c,r⟩,k,dg,0,[],t⟩with
    |true=>
     rw[S]at O;repeat' first|(refine ae ?_;simp only[go_sem])|refine ai ?_|fail
     exact aX<|.refl _
    |false=>
     rw[S]at O;repeat' first|(refine ae ?_;simp only[go_sem])|refine ai ?_|fail
     exact aX<|.refl _
theorem aMg(b:al)(aa:b.length<=1073741824)(H:ab):aO prog 58 [.str b] H (Qh b):=by
 refine bg func58 ?_;refine hH ?_;refine xU 4 7 rfl ?_;refine c7 (ι:=List bk×al×ab) (λs=>[(0,.str s.2.1),(4,.osl 7 H.length (s.1.length+1) 0 s.1.length s.1.length)]) (λs=>H++(.cells (s.1.length+1) (aV bt s.1)::s.2.2)) (λs=>s.1.length+s.2.1.length<=b.length/\jC b=(jC s.2.1).map (s.1++·)) (λs=>s.2.1.length) ([],b,[]) ⟨hW,hW⟩ ?_ rfl ?_
 ·simp[go_sem]
 rintro⟨acc,r,M⟩ ⟨hl,J⟩;simp only at hl J ⊢;unfold Qh;obtain⟨G,a7⟩:∃G,H++(.cells (acc.length+1) (aV bt acc)::M)=G:=⟨_,rfl⟩;rw[a7];have g0:az G H.length=.cells (acc.length+1) (aV bt acc):=by rw[<-a7];simp only[go_sem]
 have g1:=bE g0 trivial;have g2:=hU g0 trivial;have gs:∀X,an G H.length X=H++(X::M):=λX=>by rw[<-a7];simp only[go_sem]
 by_cases af:r=[]
 ·have hd:decide (r=[])=true:=dr af;subst af;have O:jC b=some acc:=by rw[J];simp[jC,oW]
  rw[O];refine hH ?_;exact⟨_,.aN [.sl false (acc.map bt),.int .i64 0],a7.symm,.aN _ _ rfl<|ds (aIT (bh _) g0 rfl (λ_=>rfl) (λx=>mZ)) (ds (.cl _ (.int _ _)) fx),rfl⟩
 have hd:decide (r=[])=false:=b0 af;have U:=O8 r gf;unfold HN at U;rw[Vx af]at J;cases ag:pB r with
 |none=>
  simp only[ag,bt]at U;rw[ag]at J;rw[show jC b=none from J]
  refine hH ?_;exact Qf a7 mZ<|.refl _
 |some p=>
  obtain⟨o,S⟩:=p;have T:=N2 ag;simp only[ag,bt]at U;have pq:0<r.length:=nH.2 af;have V:(∀e,e=I.agg [.int .i64 o.at_.c,.int .i64 o.at_.r,.int .i64 o.kind,.int .i64 o.node,.int .i64 o.parent,.str o.name,.str o.data]->e.cells.length=7)=True:=b1 λe he=>by rw[he];rfl
  have Z:((acc.length+1) * 72<=140737488355328)=True:=b1 gf;have z:=en (enc:=bt) (s:=7) (λ_=>rfl) acc;repeat' first|(refine ae ?_;simp only[go_sem,hd,V,Z,z,g0,g1,g2])|refine ai ?_|fail
  refine⟨(acc++[o],S,M++[.cells 0 (bt o).cells]),⟨by simp only[bw,cd,dZ];omega,?_⟩,T,?_⟩
  ·simp only;rw[J,ag];simp only[e6,zK];congr 1;funext l;simp
  ·simp only[gs,bw,cd,dZ,iP,p9,G5,cE,bt,I.cells,c6,mf];refine⟨⟨?_,?_⟩,?_⟩<;>first|trivial|rfl
theorem Vy:yI prog 198 bB:=Ij 2 func198
theorem aEK:yI prog 200 dR:=Ij 2 func200
theorem aK2:EF prog 163 dR:=LZ func163 aEK
def L7(o:Option Int):I:=.aN [.int .i64 (o.getD 0),.bool o.isSome]
theorem HO(p:α->Bool)(l:List α):(e3 p l= -1/\l.find? p=none)\/∃(i:Nat) (h:i<l.length),e3 p l=(i:Int)/\l.find? p=some l[i]:=by
 induction l with
 |nil=>exact .inl ⟨rfl,rfl⟩
 |cons x l J=>
  unfold e3;rw[List.find?_cons];cases ad:p x with
  |true=>exact .inr ⟨0,hW,rfl,rfl⟩
  |false=>
   rw[ar hW];rcases J with⟨h1,h2⟩|⟨i,hi,h1,h2⟩
   ·rw[aC h1];exact .inl ⟨rfl,h2⟩
   ·rw[ar gf];exact .inr ⟨i+1,oq hi,gf,oq h2⟩
theorem aGw(hi:az G i=.cells 0 [.int .i64 n])(s:dI):aO prog 199 [bB s,.ref i 0 0] G (.bool<|decide (s.aZ=n)):=by refine bg func199 ?_;have J:=bE hi trivial;refine bL bB.eq_1 ?_;exact aX<|.refl _
theorem aEL(hi:az G i=.cells 0 [.int .i64 n])(s:dI):aO prog 257 [bB s,.ref i 0 0] G (.bool<|decide (s.lock=n)):=by refine bg func257 ?_;have J:=bE hi trivial;refine bL bB.eq_1 ?_;exact aX<|.refl _
theorem aGx(hi:az G i=.cells 0 [.int .i64 n])(s:mO):aO prog 164 [dR s,.ref i 0 0] G (.bool<|decide (s.aZ=n)):=by refine bg func164 ?_;have J:=bE hi trivial;refine bL dR.eq_1 ?_;exact aX<|.refl _
theorem aHu(f1 f2:Bool)(t:fw)(n:Int)(H:ab):aO prog 161 [gp f1 f2 t,.int .i64 n] H (L7<|vt t.waits n):=by
 refine bg func161 ?_;have J:∀G,az G (H.length+1)=.cells 0 [.int .i64 n]->aO prog 198 [.sl f2 (t.waits.map bB),.func (.func 199) [] [.ref (H.length+1) 0 0]] G (.int .i64<|e3 (λs=>decide (s.aZ=n)) t.waits):=
  λG h=>Vy f2 t.waits (.func 199) [] [.ref (H.length+1) 0 0] (λs=>decide<|s.aZ=n) G (λs=>.mk (first:=[]) (λL=>aGw (bX h trivial L) s) aI)
 unfold vt;rcases HO (λs:dI=>decide<|s.aZ=n) t.waits with⟨h1,h2⟩|⟨i,hi,h1,h2⟩
 ·rw[h1]at J;rw[h2];repeat' first|((first|refine ia (J _<|by simp only[go_sem,gp,Int.reduceLT]) aI ?_|refine kg (J _<|by simp only[go_sem,gp,Int.reduceLT]) aI ?_|refine kh (λ_=>J _<|by simp only[go_sem,gp,Int.reduceLT]) aI ?_|refine ae ?_);simp only[go_sem,gp,Int.reduceLT])|refine ai ?_|fail
  exact aX<|.refl _
 ·rw[h1]at J;rw[h2];have U:decide ((i:Int)<0)=false:=dA;have ad:=ek bB hi;simp only[bB]at ad;repeat' first|((first|refine ia (J _<|by simp only[go_sem,gp,U,ad]) aI ?_|refine kg (J _<|by simp only[go_sem,gp,U,ad]) aI ?_|refine kh (λ_=>J _<|by simp only[go_sem,gp,U,ad]) aI ?_|refine ae ?_);simp only[go_sem,gp,U,ad])|refine ai ?_|fail
  exact aX<|.refl _
theorem aLB(f1 f2:Bool)(t:fw)(n:Int)(H:ab):aO prog 227 [gp f1 f2 t,.int .i64 n] H (L7<|xk t.held n):=by
 refine bg func227 ?_;have J:∀G,az G (H.length+1)=.cells 0 [.int .i64 n]->aO prog 198 [.sl f1 (t.held.map bB),.func (.func 257) [] [.ref (H.length+1) 0 0]] G (.int .i64<|e3 (λs=>decide (s.lock=n)) t.held):=
  λG h=>Vy f1 t.held (.func 257) [] [.ref (H.length+1) 0 0] (λs=>decide<|s.lock=n) G (λs=>.mk (first:=[]) (λL=>aEL (bX h trivial L) s) aI)
 unfold xk;rcases HO (λs:dI=>decide<|s.lock=n) t.held with⟨h1,h2⟩|⟨i,hi,h1,h2⟩
 ·rw[h1]at J;rw[h2];repeat' first|((first|refine ia (J _<|by simp only[go_sem,gp,Int.reduceLT]) aI ?_|refine kg (J _<|by simp only[go_sem,gp,Int.reduceLT]) aI ?_|refine kh (λ_=>J _<|by simp only[go_sem,gp,Int.reduceLT]) aI ?_|refine ae ?_);simp only[go_sem,gp,Int.reduceLT])|refine ai ?_|fail
  exact aX<|.refl _
 ·rw[h1]at J;rw[h2];have U:decide ((i:Int)<0)=false:=dA;have ad:=ek bB hi;simp only[bB]at ad;repeat' first|((first|refine ia (J _<|by simp only[go_sem,gp,U,ad]) aI ?_|refine kg (J _<|by simp only[go_sem,gp,U,ad]) aI ?_|refine kh (λ_=>J _<|by simp only[go_sem,gp,U,ad]) aI ?_|refine ae ?_);simp only[go_sem,gp,U,ad])|refine ai ?_|fail
  exact aX<|.refl _
theorem Xb(f:Bool)(g:o4)(n:Int)(H:ab):aO prog 117 [mw f g,.int .i64 n] H (.bool<|iC g n):=by
 refine bg func117 ?_;have J:∀G,az G (H.length+1)=.cells 0 [.int .i64 n]->aO prog 163 [.sl f (g.waits.map dR),.func (.func 164) [] [.ref (H.length+1) 0 0]] G (.bool<|iC g n):=
  λG h=>aK2 f g.waits (.func 164) [] [.ref (H.length+1) 0 0] (λs=>decide<|s.aZ=n) G (λs=>.mk (first:=[]) (λL=>aGx (bX h trivial L) s) aI)
 repeat' first|((first|refine ia (J _<|by simp only[go_sem,mw]) aI ?_|refine kg (J _<|by simp only[go_sem,mw]) aI ?_|refine kh (λ_=>J _<|by simp only[go_sem,mw]) aI ?_|refine ae ?_);simp only[go_sem,mw])|refine ai ?_|fail
 exact aX<|.refl _
def Yx(g:o4):Int:=g.waits.foldl (λu w=>max u w.upto)<|(g.waits.head?.map (·.upto)).getD 0
def Qi(g:o4):I:=.aN [.int .i64 ((z7 g).getD 0),.int .i64<|Yx g,.bool (z7 g).isSome]
theorem aIU(f:Bool)(g:o4)(H:ab):aO prog 162 [mw f g] H (Qi g):=by
 refine Pv λS=>?_;have hl:g.waits.length<=9223372036854775807:=by
  have:=wO<|aKz S (.sl f (g.waits.map dR)) hW
  rwa[dq]at this
 refine bg func162 ?_;unfold Qi z7 Yx;by_cases af:g.waits=[]
 ·rw[af];refine bL mw.eq_1 ?_;exact aX<|.refl _
 ·have J:0<g.waits.length:=nH.2 af;have d0:decide ((g.waits.length:Int)=0)=false:=dA;have U:=ek dR J;have T:g.waits.head?=some g.waits[0]:=List.head?_eq_getElem? .. ▸dn J;rw[T];obtain⟨V,Z⟩:∃w,w=g.waits[0]:=⟨_,rfl⟩;rw[<-Z]at U ⊢;simp only[dR]at U;repeat' first|(refine ae ?_;simp only[go_sem,mw,d0,U,J])|refine ai ?_|fail
  refine c7 (ι:=Nat×ab) (λs=>[(1,.ref H.length 0 0),(5,.int .i64<|(g.waits.take s.1).foldl (λu w=>max u w.upto) V.upto),(18,.sl f<|g.waits.map dR),(19,.int .i64 g.waits.length),(20,.int .i64 s.1)])
   (λs=>H++(.cells 0 [.int .i64 g.kept,.sl f<|g.waits.map dR]::s.2)) (λs=>s.1<=g.waits.length) (λs=>g.waits.length-s.1) (0,[]) (cb _) ?_ rfl ?_
  ·simp[go_sem]
  rintro⟨i,M⟩ hi;simp only at hi ⊢;obtain⟨G,a7⟩:∃G,H++(.cells 0 [.int .i64 g.kept,.sl f<|g.waits.map dR]::M)=G:=⟨_,rfl⟩;rw[a7];have g0:az G H.length=.cells 0 [.int .i64 g.kept,.sl f<|g.waits.map dR]:=by rw[<-a7];simp only[go_sem]
  have g1:=bE g0 trivial;by_cases O:i<g.waits.length
  ·have ad:=ek dR O;simp only[dR]at ad;have I:decide ((i:Int)<(g.waits.length:Int))=true:=cS;refine hH ?_;exact⟨(i+1,M++[.cells 0 [.int .i64 g.waits[i].aZ,.int .i64 g.waits[i].upto]]),O,by simp only;omega,⟨by rw[hc O,yl];rfl,b7 _<|by rw[bS];rfl⟩,by rw[<-a7];simp⟩
  ·have z:i=g.waits.length:=gf;subst z;have I:decide ((g.waits.length:Int)<(g.waits.length:Int))=false:=hW;rw[fe];refine hH ?_;exact PG a7 mZ<|.refl _
theorem aEB{c:Ctx}(U:bm c H)(O:az H i=.cells 1 [])(hs:(eU P t).known=true):mq P (Instr.alloc t true<|.tuple #[]) c (.ref i 2 0) (an H i<|.cells 2 (eU P t).cells):=by
 obtain⟨z,h1,h2⟩:=u3 hs c;obtain⟨aL,Z⟩:=h2.cells hs;have T:=U.qw O;have V:=kD O trivial;have hi:i<c.n:=by rw[U.n];exact cZ O trivial
 have J:=U.Ff V trivial gf (c.w.alloc<|.cells z.cells t) c.w.heap.size hW (.inl<|bh _) (λb S _=>ud S) rfl rfl rfl
 obtain⟨-,I⟩:=U.bump (B':=.cells 2 (eU P t).cells) V trivial gf (c.w.alloc<|.cells z.cells t) c.w.heap.size hW hW (.inl<|bh _) (λb S _=>ud S) rfl rfl rfl
  (.cells _ _ z.cells t (0,0) (by simp[Ctx.bump,T]) (by simp[Ctx.bump]) (by grind [Ctx.bump,mv]) gf (.inr<|bh _) λj y u p q=>(Z j y u p q).mono J)
 refine⟨c.bump i _ _,.pointer<|some ⟨c.w.heap.size,0,none⟩,?_,I,J,.ref _ _ _ _ hi (by simp[Ctx.bump,T]) rfl λ_=>by simp[Ctx.bump]⟩
 simp[Instr.alloc,h1,newVar,newRow,Ctx.bump]
theorem Lk{dst:Option Tmp}{ty:TypeId}{pos:String}{after:Array Edge}{α:a8}(J:az H i=.cells 1 [])(hs:(eU P t).known=true):
  ga P N ops ⟨dst,.alloc t,ty,pos,after,none⟩ α (.ref i 2 0) H (an H i<|.cells 2 (eU P t).cells):=
 ea.oa rfl (jH λc a U _=>by obtain⟨c',v,h1,h2,h3,h4⟩:=aEB U J hs;exact⟨c',v,by simp only[execOp,Sem.run_bind,h1];rfl,h2,h3,h4⟩)
theorem X9{code:Code}{α:a8}(h:cF P N code Q α (H++[.cells 1 []])):cF P N code Q α H:=by intro r c a O S J;have U:=Ext.void c;exact wpIn_mono (h r c.void a O S.void ⟨J.size,J.defers.mono U,λu=>(J.rep u).mono U⟩) λ_ _ _ ⟨c',T,H',ax,V,aU,bf,Z⟩=>⟨c',T,H',ax,V,U.trans aU,bf,Z⟩
def HP:List Oper->List cK->Bool
 |[],[]=>true
 |o::os,.aQ::ps=>zq o.op&&HP os ps
 |_::os,.bW []::ps=>HP os ps
 |_,_=>false
def Eo(ops:Array Oper)(fU:List Nat):List Oper->List cK->Nat->Bool
 |[],[],_=>true
 |o::os,.aQ::ps,k=>zq o.op&&Eo ops fU os ps (k+1)
 |_::os,.ah w::ps,k=>(w==3)&&ra ops (k::fU)&&Eo ops fU os ps (k+1)
 |_,_,_=>false
def Ns:Nat->Nat->Array Bool->Array Bool
 |0,_,l=>l
 |j+1,k,l=>Ns j (k+1)<|l.setIfInBounds k true
section
variable {N:Nat} {ops:Array Oper} {eff:Nat->Bool} {K:a8->ab->Prop}
theorem Pp:∀(os:List Oper) (pl:List cK) (k:Nat) (α:a8) (H:ab) (O:List ab) (sp:il) (T:tY) (S:il),HP os pl=true->(∀i,k<=i->(eff i=true↔i∈mu pl k))->
  (∀p∈S,(∀h,p.2 h)\/∀i∈mu pl k,rE ops p.1 i)->e8 P ops.toList pl os k α H O sp K->Ih P N ops eff K os k α H T S
 |[],[],_,_,_,_,_,_,_,_,_,_,h=>h
 |o::os,.aQ::pl,k,α,H,O,sp,T,S,ad,he,J,h=>by
  rw[HP,dp]at ad;obtain⟨v,h1,h2⟩:=h;have V:eff k=false:=by rw[<-yq,he k<|bh _];intro hm;have:=Df pl (k+1) k hm;omega
  refine⟨v,H,⟨h1.ga,λq=>Bool.noConfusion<|V.symm.trans q,λ_=>⟨rfl,λe _ _=>(JH ad.1 h1).ga⟩⟩,?_⟩
  simp only[V,gB];refine Pp os pl (k+1) _ H O sp _ _ ad.2 (λi hi=>he i gf) ?_ h2;intro p U;cases U with
  |head=>exact .inl λh=>(JH ad.1 h1).ga
  |tail _ U=>exact J p U
 |o::os,.bW []::pl,k,α,H,O,sp,T,S,ad,he,J,h=>by
  obtain⟨v,H1,h1,h2,h3⟩:=h;have Z:eff k=true:=by rw[he k (bh _)];exact .head _
  refine⟨v,H1,⟨Xp h1,λ_ p U I=>?_,λq=>Bool.noConfusion<|Z.symm.trans q⟩,?_⟩
  ·rcases J p U with q|q
   ·exact q _
   ·exact absurd (q k<|.head _) I
  ·simp only[Z,dW];refine Pp os pl (k+1) _ _ _ _ _ _ ad (λi hi=>?_) (λp U=>?_) h3
   ·rw[he i gf];constructor
    ·intro hm;cases hm with
     |head=>omega
     |tail _ hm=>exact hm
    ·exact .tail _
   ·rcases J p U with q|q
    ·exact .inl q
    ·exact .inr λi hi=>q i<|.tail _ hi
theorem VQ(bL:∀α β H,Alike α β->K α H->K β H)(S:Nat)(T:∀i j,S<=i->eff i=true->eff j=true->j≠i->∀listed,np ops listed->i∈Region.ready .any ops listed->j∈Region.ready .any ops listed->False):
  ∀(l:List Oper) (k:Nat) (listed:Array Bool) (α:a8) (H:ab) (J:tY) (U:il),S<=k->(∀j,l[j]?=ops[k+j]?)->np ops listed->
  Region.lexFrom .any ops l.length k listed=true->Ih P N ops eff K l k α H J U->tG P N ops eff K l.length listed α H J U
 |[],_,_,_,_,_,_,_,_,_,O,h=>⟨by simpa[Region.lexFrom]using O,h⟩
 |o::l,k,listed,α,H,J,U,I,hl,V,O,h=>by
  have ay:=by simpa using(hl 0).symm
  simp[Region.lexFrom]at O;obtain⟨⟨z,aA⟩,yU⟩:=O;obtain⟨v,H1,aJ,hk⟩:=h;have Z:=oq z;exact NH bL ay (λhe j au aT=>T k j I he au aT) l.length listed α H H1 J U V (Region.free_spec ay aA) Z aJ
   (VQ bL S T l (k+1) _ _ _ _ _ gf (λj=>by have:=hl<|j+1;grind) (V.set Z) yU hk)
def QC(ops:Array Oper)(fU:List Nat)(A B C:ab)(lk:il):Prop:=∀p∈lk,(∀h,p.2 h)\/(p.2 A/\p.2 B/\p.2 C/\∀i∈fU,rE ops p.1 i)
theorem O9(bL:∀α β H,Alike α β->K α H->K β H)(V:List Nat)(A B C:ab)(m n:Nat)(z:a8->ab->Prop):
  ∀(os:List Oper) (pl:List cK) (k:Nat) (listed:Array Bool) (α:a8) (H:ab) (sp J:il),k+os.length=n->(∀i,i<n->eff i=false)->(∀j,j<os.length->os[j]?=ops[k+j]?)->np ops listed->
  Eo ops V os pl k=true->Region.lexFrom .any ops (os.length+m) k listed=true->QC ops V A B C J->
  (∀(DZ:a8) (u7:il) (Nr:Array Bool),Nr=Ns os.length k listed->np ops Nr->Region.lexFrom .any ops m n Nr=true->QC ops V A B C u7->z DZ H->tG P N ops eff K m Nr DZ H [] u7)->
  e8 P ops.toList pl os k α H [A,B,C] sp z->tG P N ops eff K (os.length+m) listed α H [] J
 |[],[],k,listed,α,H,sp,J,af,_,_,O,_,U,Z,hk,h=>by simp only[dZ,lr,wU]at U af ⊢;subst af;exact hk α J listed rfl O U Z h
 |o::os,.aQ::pl,k,listed,α,H,sp,J,af,he,hl,O,ad,U,Z,hk,h=>by
  rw[Eo,dp]at ad;obtain⟨v,h1,h2⟩:=h;have S:=he k (by simp at af;omega)
  have ay:=by simpa using(hl 0 hW).symm
  simp only[cd,Nat.succ_add,Region.lexFrom,dp]at U ⊢;obtain⟨⟨aw,aA⟩,yU⟩:=U;have I:=oq aw;refine NH bL ay (λq=>Bool.noConfusion<|S.symm.trans q) (os.length+m) listed α H H [] J O (Region.free_spec ay aA) I
   ⟨h1.ga,λq=>Bool.noConfusion<|S.symm.trans q,λ_=>⟨rfl,λe he _=>p2 he⟩⟩ ?_
  simp only[S,mM,gB];refine O9 bL V A B C m n z os pl (k+1) _ _ H sp _ (by simp at af;omega) he (λj au=>by have:=hl (j+1) nc;grind) (O.set I) ad.2 yU ?_ hk h2
  intro p T;cases T with
  |head=>exact .inl λh=>(JH ad.1 h1).ga
  |tail _ T=>exact Z p T
 |o::os,.ah w::pl,k,listed,α,H,sp,J,af,he,hl,O,ad,U,Z,hk,h=>by
  simp only[Eo,dp,rD]at ad;obtain⟨⟨rfl,jM⟩,ad⟩:=ad;obtain⟨v,h1,h2,h3⟩:=h;have S:=he k (by simp at af;omega)
  have ay:=by simpa using(hl 0 hW).symm
  simp only[cd,Nat.succ_add,Region.lexFrom,dp]at U ⊢;obtain⟨⟨aw,aA⟩,yU⟩:=U;have I:=oq aw;refine NH bL ay (λq=>Bool.noConfusion<|S.symm.trans q) (os.length+m) listed α H H [] J O (Region.free_spec ay aA) I
   ⟨h1.ga,λq=>Bool.noConfusion<|S.symm.trans q,λ_=>⟨rfl,λe he _=>p2 he⟩⟩ ?_
  simp only[S,mM,gB];refine O9 bL V A B C m n z os pl (k+1) _ _ H _ _ (by simp at af;omega) he (λj au=>by have:=hl (j+1) nc;simpa[vh,Nat.add_comm 1 j]using this) (O.set I) ad yU ?_ hk h3
  intro p T;cases T with
  |head=>obtain⟨cx,a2,a3, -⟩:=h2;exact .inr ⟨cx.ga,a2.ga,a3.ga,λi hi=>(Gn jM i hi).1⟩
  |tail _ T=>exact Z p T
end
def Za(ops:Array Oper)(n:Nat)(t1 t2:TypeId)(d1 d2:Tmp):Bool:=
 match ops[n]?,ops[n+1]? with
 |some ⟨some a,.alloc s,_,_,_,none⟩,some ⟨some b,.alloc u,_,_,_,none⟩=>(a==d1)&&(b==d2)&&(s==t1)&&(u==t2)&& !(a==b)
 |_,_=>false
def Zb(ops:Array Oper)(n:Nat)(l:Array Bool):Bool:=
 (Region.ready .any ops l==[n,n+1])&&(Region.ready .any ops (l.setIfInBounds n true)==[n+1])&&(Region.ready .any ops (l.setIfInBounds (n+1) true)==[n])
def Yy(ops:Array Oper)(J5 oV:List cK)(n:Nat)(t1 t2:TypeId)(d1 d2:Tmp):Bool:=
 Za ops n t1 t2 d1 d2&&Zb ops n (Ns n 0<|Array.replicate ops.size false)&&Nat.ble (n+2) ops.size&&
  Eo ops (mu oV<|n+2) (ops.toList.take n) J5 0&&HP (ops.toList.drop<|n+2) oV&&ra ops (n::mu oV (n+2))&&ra ops ((n+1)::mu oV (n+2))
def Qj(P:Program)(all:List Oper)(oV:List cK)(rest:List Oper)(n:Nat)(d1 d2:Tmp)(v1 v2:I)(G:ab)(ep:a8->ab->Prop):a8->ab->Prop:=
 λα _=>e8 P all oV rest (n+2) ((d2,v2)::(d1,v1)::α) G [] [] ep
@[go_sem] theorem aWT(all)(J)(rest)(n)(d1 d2)(v1 v2)(G)(U)(α)(H):
  Qj P all J rest n d1 d2 v1 v2 G U α H=e8 P all J rest (n+2) ((d2,v2)::(d1,v1)::α) G [] [] U:=rfl
theorem No{id:Nat}{α:a8}(J5 Z:List cK)(n:Nat)(t1 t2:TypeId)(d1 d2:Tmp)(hm:P.follows .mixedOrders=true)(hd:tn N ops=true)(cf:Region.lexB .any ops=true)
  (ad:Yy ops J5 Z n t1 t2 d1 d2=true) (fO:(eU P t1).known=true) (gl:(eU P t2).known=true)
  (h:e8 P ops.toList J5 (ops.toList.take n) 0 α (H++[.cells 1 [],.cells 1 []])
   [H++[.cells 2 (eU P t1).cells,.cells 1 []],H++[.cells 1 [],.cells 2 (eU P t2).cells],H++[.cells 2 (eU P t1).cells,.cells 2 (eU P t2).cells]] []
   (Qj P ops.toList Z (ops.toList.drop<|n+2) n d1 d2 (.ref H.length 2 0) (.ref (H.length+1) 2 0) (H++[.cells 2 (eU P t1).cells,.cells 2 (eU P t2).cells]) (λI H'=>Q .normal I H'))):cF P N (.region id ops true) Q α H:=by
 refine X9<|X9 ?_;rw[c6,KU];intro r c a _ hs aG;simp only[Region.lexB,dp]at cf;simp only[Yy,dp,Nat.ble_eq]at ad;obtain⟨⟨⟨⟨⟨⟨hO,eY⟩,af⟩,cc⟩,cX⟩,jt⟩,rX⟩:=ad;obtain⟨S,eN⟩:∃G,H++[.cells 2 (eU P t1).cells,.cells 1 []]=G:=⟨_,rfl⟩;obtain⟨T,hy⟩:∃G,H++[.cells 1 [],.cells 2 (eU P t2).cells]=G:=⟨_,rfl⟩;obtain⟨U,lF⟩:∃G,H++[.cells 2 (eU P t1).cells,.cells 2 (eU P t2).cells]=G:=⟨_,rfl⟩;obtain⟨O,z⟩:∃G,H++[.cells 1 [],.cells 1 []]=G:=⟨_,rfl⟩;rw[z]at hs;rw[z,eN,hy,lF]at h;have tB:az O H.length=.cells 1 []:=by rw[<-z];simp[az]
 have Kj:az O (H.length+1)=.cells 1 []:=by rw[<-z];simp[az]
 have DG:az S (H.length+1)=.cells 1 []:=by rw[<-eN];simp[az]
 have aSE:az T H.length=.cells 1 []:=by rw[<-hy];simp[az]
 have s1:an O H.length (.cells 2 (eU P t1).cells)=S:=by rw[<-z,<-eN];simp[an]
 have s2:an O (H.length+1) (.cells 2 (eU P t2).cells)=T:=by rw[<-z,<-hy];simp[an]
 have mb:an S (H.length+1) (.cells 2 (eU P t2).cells)=U:=by rw[<-eN,<-lF];simp[an]
 have GR:an T H.length (.cells 2 (eU P t1).cells)=U:=by rw[<-hy,<-lF];simp[an]
 refine wpIn_region_any hm ?_;obtain⟨fU,RN⟩:∃fU,fU=mu Z (n+2):=⟨_,rfl⟩;have aYr:∀i∈fU,n+2<=i:=λi hi=>Df Z (n+2) i<|RN▸hi
 obtain⟨eff,AS⟩:∃eff:Nat->Bool,eff=λi=>(i==n)||(i==n+1)||fU.contains i:=⟨_,rfl⟩;have aAr:eff n=true:=by rw[AS];simp
 have aAs:eff (n+1)=true:=by rw[AS];simp
 have Q9:∀i,n+2<=i->(eff i=true↔i∈mu Z (n+2)):=λi hi=>by grind
 have aAq:∀i,i<n->eff i=false:=λi hi=>by rw[AS];grind
 let K:a8->ab->Prop:=λI H'=>∃β,Alike I β/\Q .normal β H'
 have bL:∀α β H,Alike α β->K α H->K β H:=λα β H df ⟨Ho,aP,aM⟩=>⟨Ho,λt=>(df t).symm.trans<|aP t,aM⟩
 have vJ:∀i j,n+2<=i->eff i=true->eff j=true->j≠i->∀listed,np ops listed->i∈Region.ready .any ops listed->j∈Region.ready .any ops listed->False:=by
  intro i j hi pX CH aT listed ao h1 h2;have RX:i∈mu Z (n+2):=(Q9 i hi).1 pX;rcases BJ j n with J|J
  ·rw[aAq j J]at CH;cases CH
  ·rcases BJ j (n+2)with Jb|Jb
   ·have aPC:j=n\/j=n+1:=gf;rcases aPC with e|e
    ·subst e;exact Dt ao h2 h1 (Gn jt i RX).1
    ·subst e;exact Dt ao h2 h1 (Gn rX i RX).1
   ·rcases OZ (Vh jt) i j RX ((Q9 j Jb).1 CH) aT with q|q
    ·exact Dt ao h1 h2 q
    ·exact Dt ao h2 h1 q
 obtain⟨lp,aL,f1,z2,aR,f2,M5,CS,df⟩:∃(lp:TypeId) (aL:String) (f1:Array Edge) (z2:TypeId) (aR:String) (f2:Array Edge) (_:ops[n]?=some ⟨some d1,.alloc t1,lp,aL,f1,none⟩) (_:ops[n+1]?=some ⟨some d2,.alloc t2,z2,aR,f2,none⟩),d1≠d2:=by
  unfold Za at hO;split at hO
  ·rename_i a s lp aL f1 b u z2 aR f2 ax aq;simp only[dp,rD,yt,beq_eq_false_iff_ne]at hO;obtain⟨⟨⟨⟨rfl,rfl⟩,rfl⟩,rfl⟩,aT⟩:=hO;exact⟨lp,aL,f1,z2,aR,f2,ax,aq,aT⟩
  ·cases hO
 have y0:np ops (Array.replicate ops.size false):=by intro q o aM;rw[He]at aM;by_cases av:q<ops.size<;>simp[av]at aM
 obtain⟨rest,FR⟩:∃rest,rest=ops.toList.drop (n+2):=⟨_,rfl⟩;have te:rest.length=ops.size-(n+2):=by rw[FR,hp,Array.length_toList]
 have hlen:(ops.toList.take n).length=n:=by rw[gK,Array.length_toList];omega
 rw[<-FR]at h cX;have key:∀(DZ:a8) (V:il) (L:Array Bool),L=Ns (ops.toList.take n).length 0 (Array.replicate ops.size false)->np ops L->Region.lexFrom .any ops (rest.length+2) n L=true->QC ops fU S T U V->
   Qj P ops.toList Z rest n d1 d2 (.ref H.length 2 0) (.ref (H.length+1) 2 0) U (λI H'=>Q .normal I H') DZ O->tG P N ops eff K (rest.length+2) L DZ O [] V:=by
  intro DZ V L gW eG uB ih hk;rw[hlen]at gW;simp only[Region.lexFrom,dp]at uB;obtain⟨⟨AZ, -⟩,⟨nZ, -⟩,uB⟩:=uB;rw[<-gW]at eY;simp only[Zb,dp,rD]at eY;obtain⟨⟨OH,Hx⟩,w5⟩:=eY;have aO3:=(eG.set (j:=n) (by rw[OH];exact .head _)).set (j:=n+1)<|by rw[Hx];exact .head _
  have y3:∀bU,tG P N ops eff K rest.length ((L.setIfInBounds n true).setIfInBounds (n+1) true) (cP (some d2) (.ref (H.length+1) 2 0)<|cP (some d1) (.ref H.length 2 0) DZ) U bU V:=λbU=>
   VQ bL (n+2) vJ rest (n+2) _ _ U bU V (bh _) (λj=>by rw[FR,List.getElem?_drop,vm]) aO3 uB
    (Pp rest Z (n+2) _ U [] [] bU V cX Q9 (λp ad=>(ih p ad).imp (λq=>q) λq=>by rw[<-RN];exact q.2.2.2)
     (Vi (k':=K) (λI H' aM=>⟨I,λ_=>rfl,aM⟩) _ _ _ _ _ _ _ hk))
  have aSW:∀α,ga P N ops ⟨some d1,.alloc t1,lp,aL,f1,none⟩ α (.ref H.length 2 0) O S:=λα=>by rw[<-s1];exact Lk tB fO
  have aSX:∀α,ga P N ops ⟨some d2,.alloc t2,z2,aR,f2,none⟩ α (.ref (H.length+1) 2 0) O T:=λα=>by rw[<-s2];exact Lk Kj gl
  have aSY:∀α,ga P N ops ⟨some d2,.alloc t2,z2,aR,f2,none⟩ α (.ref (H.length+1) 2 0) S U:=λα=>by rw[<-mb];exact Lk DG gl
  have aSZ:∀α,ga P N ops ⟨some d1,.alloc t1,lp,aL,f1,none⟩ α (.ref H.length 2 0) T U:=λα=>by rw[<-GR];exact Lk aSE fO
  have sm:∀p∈V,p.2 S:=λp ad=>(ih p ad).elim (λq=>q _) λq=>q.1;have aRK:∀p∈V,p.2 T:=λp ad=>(ih p ad).elim (λq=>q _) λq=>q.2.1;have aCG:∀p∈V,p.2 U:=λp ad=>(ih p ad).elim (λq=>q _) λq=>q.2.2.1;refine⟨λay=>(by rw[OH]at ay;cases ay),λi hi=>?_⟩
  rw[OH]at hi;cases hi with
  |head=>
   unfold tz;simp only[M5,aAr,dW];refine⟨_,S,aSW _,λp ad _=>sm p ad,⟨λay=>(by rw[Hx]at ay;cases ay),λj J=>?_⟩⟩
   rw[Hx]at J;cases J with
   |head=>unfold tz;simp only[CS,aAs,dW];exact⟨_,U,aSY _,λp ad _=>aCG p ad,y3 _⟩
   |tail _ J=>cases J
  |tail _ hi=>
   cases hi with
   |head=>
    unfold tz;simp only[CS,aAs,dW];refine⟨_,T,aSX _,λp ad _=>aRK p ad,⟨λay=>(by rw[w5]at ay;cases ay),λj J=>?_⟩⟩
    rw[w5]at J;cases J with
    |head=>unfold tz;simp only[M5,aAr,dW];refine⟨_,U,aSZ _,λp ad _=>aCG p ad,?_⟩;rw[KP _ _ gf];exact Dh bL _ _ _ _ _ _ _ _ (IJ λd hd he=>by cases hd;cases he;exact df rfl) (.refl _)<|y3 _
    |tail _ J=>cases J
   |tail _ hi=>cases hi
 have hsz:(ops.toList.take n).length+(rest.length+2)=ops.size:=by rw[hlen,te];omega
 have h3:=O9 (N:=N) (ops:=ops) (eff:=eff) bL fU S T U (rest.length+2) n _ (ops.toList.take n) J5 0 (Array.replicate ops.size false) α O [] [] (by rw[hlen];omega) aAq
  (λj J=>by rw[hlen]at J;rw[List.getElem?_take_of_lt J,vm,lr]) y0 (by rw[RN];exact cc) (by rw[hsz];exact cf.2) (λp ad=>p2 ad) key h
 have h4:=Np (r:=r) (P:=P) (Q:=vq N c Q) hd c (λI H' c' cQ ⟨β,df,aM⟩ gk fW s5=>⟨c',β,H',rfl,gk,fW,s5.weaken λt=>.inr (df t).symm,aM⟩)
  _ (Array.replicate ops.size false) α O _ _ c.draw a hs.draw (Ext.draw c) (aG.mono<|Ext.draw c) h3
 rw[hsz]at h4;exact h4
end Go.Proofs.YtnmamncmpklliaaGreatDoor
