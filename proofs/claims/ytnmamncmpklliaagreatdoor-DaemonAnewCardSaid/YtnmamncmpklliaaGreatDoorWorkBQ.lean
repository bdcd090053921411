/- What the functions of this seat answer (43 of 53). No condition. -/
import Derived.Test.YtnmamncmpklliaaGreatDoorWorkBP
set_option linter.unusedSimpArgs false
set_option linter.unusedVariables false
set_option maxRecDepth 100000
set_option maxHeartbeats 16000000
namespace Go.Proofs.YtnmamncmpklliaaGreatDoor
variable{i:Nat}{f g:Bool}{w:bO}{G:ab}
open Go.Proofs.Tryz
def jN(f g:Bool)(w:bO):List I:=(dN f g w).cells
theorem PF(n:Nat)(f g:Bool)(w:bO):ep n (.cells 0<|jN f g w):=λx J=>by
 simp only[jN,dN,I.cells,cU,lj,lk]at J;rcases J with rfl|rfl|rfl|rfl|rfl|rfl|rfl|rfl|rfl|rfl|rfl|rfl|rfl|rfl;all_goals first|exact .int _ _|exact .str _|exact .bool _|exact(b6.sl _ _ λx J=>by obtain⟨y, -,rfl⟩:=bJ.1 J;simp only[go_sem]).cl _
theorem aLc(J:ay G i=.cells 0 (jN f g w))(hd:gn w)(o:aX)(hs:hD o):
  dp prog 72 [.ref i 0 0,bh o] G (λv H'=>v=.int .i64 (pU w o).2/\H'=ar G i (.cells 0<|jN (if(pU w o).2=0 then false else f) (if(pU w o).2=0 then false else g) (pU w o).1)):=by
 refine jw func72 ?_;have hi:=dk J trivial;have g1:=bC J trivial;have g4:=gN J trivial;have ad:=XX [] o hs kk
 have V:=λv=>PF G.length false false v
 have own:=(lr J trivial).symm;unfold pU;obtain⟨q,aJ⟩:∃q,qV [] o=q:=⟨_,rfl⟩;have K:(qV [] o).1.length<=1073741824:=by have:=aLx o;omega
 rw[aJ]at ad K ⊢;obtain⟨T,e⟩:=q;simp only at ad K ⊢;simp only[bh]at ad ⊢;by_cases he:e=0
 ·subst he;rw[aj kk]
  have O:=aEF f g w T (by have:=hd.wu.wt;omega) K
  obtain⟨a,Z⟩:∃a,qy w T=a:=⟨_,rfl⟩;rw[Z]at O ⊢;obtain⟨z,n,av⟩:=a;simp only[dN]at O;simp only[jN,dN,I.cells]at J g1 g4;simp only;by_cases U:av=0
  ·subst U;rw[aj kk,aA rfl,aA rfl]
   repeat' first|(refine ae ?_;simp only[go_sem,J,g1,g4])|refine ao ?_|fail
   exact⟨_,_,_,rfl,bc _ _ _,pn<|V z,.cl _<|.int _ _,rfl,rfl⟩
  ·have d1:decide (av=0)=false:=bN U;rw[aA U,aj U,aj U];repeat' first|(refine ae ?_;simp only[go_sem,J,g1,g4,d1])|refine ao ?_|fail
   exact⟨G,_,_,rfl,rfl,λ_ _ h=>.inl h,.cl _<|.int _ _,rfl,own⟩
 ·have d1:decide (e=0)=false:=bN he;rw[aA he,aj he,aj he];repeat' first|(refine ae ?_;simp only[go_sem,d1])|refine ao ?_|fail
  exact⟨G,_,_,rfl,rfl,λ_ _ h=>.inl h,.cl _<|.int _ _,rfl,own⟩
theorem WJ(J:ay G i=.cells 0 (jN f g w))(hd:gn w)(b:Bool)(l:List aX)(hs:∀o∈l,hD o)(af:l.length<=1000000)(hl:(l.flatMap eS).length<=1000000000):
  dp prog 41 [.ref i 0 0,.sl b<|l.map bh] G (λv H'=>v=.int .i64 (pN w l).2/\H'=ar G i (.cells 0<|jN (if(pN w l).2=0 then false else f) (if(pN w l).2=0 then false else g) (pN w l).1)):=by
 refine jw func41 ?_;have hi:=dk J trivial;have g1:=bC J trivial;have g4:=gN J trivial;have ad:=aGD l b hs af hl;have dV:=λv=>PF G.length false false v
 have own:=(lr J trivial).symm;unfold pN;have K:(xL l).1.length<=1073741824:=by unfold xL;split<;>simp only[eg]<;>omega
 obtain⟨q,aJ⟩:∃q,xL l=q:=⟨_,rfl⟩;rw[aJ]at ad K ⊢;obtain⟨T,e⟩:=q;simp only at ad K ⊢;by_cases he:e=0
 ·subst he;rw[aj kk]
  have hm:=aJn f g w hd.wu T K;have O:=hd.mark T;obtain⟨V,jE⟩:∃V,rB w T=V:=⟨_,rfl⟩;rw[jE]at hm O ⊢;obtain⟨v,av⟩:=V;simp only at hm O ⊢;simp only[jN,dN,I.cells]at J g1 g4;simp only[dN]at hm;by_cases U:av=0
  ·subst U;rw[aj kk]
   have Z:=O rfl;obtain⟨m1,m2,m3⟩:=Z.sync hd;have vR:=Xf false false v Z.bM (by rw[Z.uF];have:=hd.qE;exact bI)
   have z:=aJu false false (kv v) m1;rw[m3]at z;rw[m3,aj kk,aA rfl,aA rfl]
   generalize(sx (kv v)).1=dE at *;generalize kv v=cP at *;simp only[dN]at vR z;repeat' first|(refine ae ?_;simp only[go_sem,J,g1,g4])|refine ao ?_|fail
   exact⟨_,_,_,rfl,bc _ _ _,pn<|dV dE,.cl _<|.int _ _,rfl,rfl⟩
  ·have d1:decide (av=0)=false:=bN U;rw[aA U,aj U,aj U];repeat' first|(refine ae ?_;simp only[go_sem,J,g1,g4,d1])|refine ao ?_|fail
   exact⟨G,_,_,rfl,rfl,λ_ _ h=>.inl h,.cl _<|.int _ _,rfl,own⟩
 ·have d1:decide (e=0)=false:=bN he;rw[aA he,aj he,aj he];repeat' first|(refine ae ?_;simp only[go_sem,d1])|refine ao ?_|fail
  exact⟨G,[],_,kk,rfl,λ_ _ h=>.inl h,.cl _<|.int _ _,rfl,own⟩
theorem aJa(J:ay G i=.cells 0 (jN f g w))(hd:gn w)(b:Bool)(l:List aX)(hs:∀o∈l,hD o)(af:l.length<=1000000)(hl:(l.flatMap eS).length<=1000000000):
  dp prog 71 [.ref i 0 0,.sl b<|l.map bh] G (λv H'=>v=.int .i64 (o7 w l).2/\H'=ar G i (.cells 0<|jN (if(o7 w l).2=0 then false else f) (if(o7 w l).2=0 then false else g) (o7 w l).1)):=by
 refine jw func71 ?_;have hi:=dk J trivial;have g1:=bC J trivial;have g4:=gN J trivial;have Z:=λf g v=>PF G.length f g v
 have ad:=aGN f g w hd.wu;have z:∀L,_:=λL=>WJ (G:=G++L) (bC J trivial L) hd b l hs af hl
 unfold o7;have K:=hd.lO;have U:=Xf false false (oq w).1;obtain⟨q,aJ⟩:∃q,oq w=q:=⟨_,rfl⟩;rw[aJ]at ad K U ⊢;obtain⟨v,e⟩:=q;simp only at ad K U ⊢;simp only[dN]at ad;have O:=g4;have T:=J;simp only[jN,dN,I.cells]at T g1 g4;by_cases he:e=0
 ·subst he;rw[aj kk,aA rfl,aA rfl]
  have ed:=K rfl;have V:=hd.eo<|by rw[aJ]
  rw[aJ]at V;have U:=U V.1 V.2;generalize kv v=dE at *;simp only[dN]at U;repeat' first|(refine ae ?_;simp only[go_sem,T,g1,g4])|refine ao ?_|fail
  exact⟨_,_,_,rfl,bc _ _ _,pn<|Z false false dE,.cl _<|.int _ _,rfl,rfl⟩
 ·have d1:decide (e=0)=false:=bN he;rw[aA he];repeat' first|(refine ae ?_;simp only[go_sem,T,g1,g4,d1])|refine ao ?_|fail
  refine dU (z _) aK ?_;rintro x H' ⟨rfl,rfl⟩;rw[O];simp only[go_sem];refine aW ?_;exact⟨_,_,_,rfl,bc _ _ _,pn<|Z _ _ _,.cl _<|.int _ _,rfl,rfl⟩
def lv(d:dJ)(c:b8):dJ×Int×Int:=
 let s:=pv d.c c
 if s.2.2≠0 then(d,0,s.2.2)else({d with c:=s.1},s.2.1,0)
def mX(d:dJ):dJ×Int:=
 let s:=pN d.w d.c.ops
 if s.2≠0 then(d,s.2)else({d with w:=s.1},0)
theorem NK(d:dJ)(c:b8)(af:d.c.aC.length<=1000)(H:ab):aM prog 27 [cR d,c4 c] H (.aQ [cR (lv d c).1,.int .i64 (lv d c).2.1,.int .i64 (lv d c).2.2]):=by
 refine aZ func27 ?_;have hs:=aHG false false false false false false false false false d.c c af;unfold lv;obtain⟨q,aJ⟩:∃q,pv d.c c=q:=⟨_,rfl⟩;rw[aJ]at hs ⊢;obtain⟨x,n,e⟩:=q;simp only[n1,hx,kC,c4]at hs ⊢;by_cases he:e=0
 ·subst he;rw[aj kk]
  repeat' first|((first|refine cx (hs _) ?_|refine ae ?_);simp only[go_sem,en])|refine ao ?_|fail
  exact aV<|.refl _
 ·have d1:decide (e=0)=false:=bN he;rw[aA he];repeat' first|((first|refine cx (hs _) ?_|refine ae ?_);simp only[go_sem,en,d1])|refine ao ?_|fail
  exact aV<|.refl _
theorem OJ(d:dJ)(hd:gn d.w)(hs:∀o∈d.c.ops,hD o)(af:d.c.ops.length<=1000000)(hl:(d.c.ops.flatMap eS).length<=1000000000)(H:ab):aM prog 19 [cR d] H (.aQ [cR (mX d).1,.int .i64 (mX d).2]):=by
 refine aZ func19 ?_;have J:∀A B,_:=λA B=>WJ (i:=H.length+2) (f:=false) (g:=false) (w:=d.w) (G:=H++[A,B,.cells 0<|jN false false d.w]) nb hd false d.c.ops hs af hl
 unfold mX;obtain⟨q,aJ⟩:∃q,pN d.w d.c.ops=q:=⟨_,rfl⟩;rw[aJ]at J ⊢;obtain⟨w,e⟩:=q;simp only[jN,dN,I.cells,ite_self]at J ⊢;refine bP en.eq_1 ?_;refine dU (J _ _) aK ?_;rintro v H' ⟨rfl,rfl⟩;simp only[go_sem];by_cases he:e=0
 ·subst he;rw[aj kk]
  repeat' first|(refine ae ?_;simp only[go_sem])|refine ao ?_|fail
  exact aV<|.refl _
 ·have d1:decide (e=0)=false:=bN he;rw[aA he];refine hH ?_;exact aV<|.refl _
theorem aHL(J:ay G i=.cells 0 (jN f g w))(hd:gn w)(cz:ag)(ad:cz.length<=1073741824):
  aM prog 34 [.ref i 0 0,.str cz] G (fW true<|pk w.bw cz):=by
 refine aZ func34 ?_;have g1:=bC J trivial;have U:=aGO f hd.wu.bM cz ad;simp only[jN,dN,I.cells]at J g1;simp only[fW]at U ⊢;refine hH ?_;exact aV<|.refl _
end Go.Proofs.YtnmamncmpklliaaGreatDoor
