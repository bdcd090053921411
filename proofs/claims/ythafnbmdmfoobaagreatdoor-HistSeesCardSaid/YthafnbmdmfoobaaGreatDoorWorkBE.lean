/- What the functions of this seat answer (31 of 40). No condition. -/
import Derived.Test.YthafnbmdmfoobaaGreatDoorWorkBD
set_option linter.unusedSimpArgs false
set_option linter.unusedVariables false
set_option maxRecDepth 100000
set_option maxHeartbeats 16000000
namespace Go.Proofs.YthafnbmdmfoobaaGreatDoor
section
theorem K2{H H':ab}(hl:H.length<=H'.length)(h:∀j,j<H.length->ao H' j=ao H j):∃L,H'=H++L:=by
 refine⟨H'.drop H.length,?_⟩;refine List.ext_getElem? fun j=>?_
 rw[List.getElem?_append];split
 ·rename_i aw;have:=h j aw;simp only[ao,eP]at this;rw[c0 aw,c0 (by omega)]at this ⊢
  exact bH some this
 ·rw[List.getElem?_drop];congr 1;omega
theorem Hf{n i v k lc:Nat}{H:ab}{cs r:List I}(D:List cM)(ag:n<=i)(ah:ao H i=.cells v cs)(al:cs=aI a6 D++r)(hk:D.length=k):cQ n H (.osl 2 i v 0 k lc) (.sl false (D.map a6)):=
 sG (es:=D.map a6) (rest:=r) ag ah al (by rw[cP,hk]) (fun e he=>by(obtain⟨x, -,rfl⟩:=bP.1 he;rfl)) (fun e he=>by(obtain⟨x, -,rfl⟩:=bP.1 he;simp only[go_sem]))
theorem TP(f1 f2:Bool)(t:eS)(H:ab):q3 (H.length+3) (H.length+1) (H.length+2) 1 1 t.held.length t.waits.length t (H++qK H.length f1 f2 t):=by
 have gC:=dE (enc:=a6) (s:=2) (fun _=>rfl) t.held
 have iI:=dE (enc:=a6) (s:=2) (fun _=>rfl) t.waits
 unfold qK;exact⟨by simp only[go_sem],⟨[],by simp only[go_sem];try simp,by simp[gC],fun x J=>by cases J⟩,⟨[],by simp only[go_sem];try simp,by simp[iI],fun x J=>by cases J⟩⟩
theorem aB5(f1 f2:Bool)(t:eS)(n k:Int)(h1:t.held.length<=1000000)(h2:t.waits.length<=1000000)(H:ab):aY Tryz.prog 80 [fN f1 f2 t,.int .i64 n,.int .i64 k] H (.a0 [fN false false (fo t n k).1,.int .i64 ((fo t n k).2.getD 0),.bool (fo t n k).2.isSome]):=by
 refine bh Tryz.func80 ?_;have mh:=LC f1 f2 t h1 h2;simp only[fN]at mh;refine b0 fN.eq_1 ?_;obtain⟨eI,tr⟩:∃eI,H++[bu.cells 0 [.sl f1 (t.held.map a6),.sl f2 (t.waits.map a6)],bu.cells 0 [.sl true [],.sl true []]]=eI:=⟨_,rfl⟩;rw[tr];have lF:eI.length=H.length+2:=by rw[<-tr];simp
 have wj:ao eI (H.length+1)=.cells 0 [.sl true [],.sl true []]:=by rw[<-tr];simp only[go_sem]
 refine c6 (mh _) (aA) ?_;rintro v H' ⟨rfl,rfl⟩;have hs:=TP f1 f2 t eI;have wj:=bQ wj trivial (qK eI.length f1 f2 t);have cH:(eI++qK eI.length f1 f2 t).length=H.length+6:=by rw[bt,lF];rfl
 have FG:∀j,j<H.length->ao (eI++qK eI.length f1 f2 t) j=ao H j:=fun j aw=>by rw[<-tr,cr];simp only[ao,eP];rw[iC aw]
 obtain⟨G,aT⟩:∃G,eI++qK eI.length f1 f2 t=G:=⟨_,rfl⟩;rw[aT]at hs wj cH FG ⊢;rw[lF]at hs;have hs:q3 (H.length+5) (H.length+3) (H.length+4) 1 1 t.held.length t.waits.length t G:=hs;simp only[go_sem];refine bW ?_;refine c6 (S6 hs (by omega) (by omega) (by omega) h1 h2 n k) (aA) ?_
 rintro v H' ⟨rfl,⟨aQ,⟨aU,aO, -, -⟩,⟨a3,bF, -, -⟩⟩,cO,aN⟩;have aIr:ao H' (H.length+1)=.cells 0 [.sl true [],.sl true []]:=by rw[aN _ (by omega) (by omega) (by omega)];exact wj
 unfold Eo;have aIs:=fun v X=>dT (c8 aIr trivial) (.cells v X)
 simp only[go_sem];refine bW ?_;obtain⟨X,ez⟩:∃X,ai H' (H.length+1) (bu.cells 0 [.osl 2 (H.length+3) 1 0 (fo t n k).1.held.length t.held.length,.osl 2 (H.length+4) 1 0 (fo t n k).1.waits.length t.waits.length])=X:=⟨_,rfl⟩;have dZ:ao X (H.length+3)=.cells 1 (aI a6 (fo t n k).1.held++aU):=by rw[<-ez];exact bM aO (by omega) _
 have gh:ao X (H.length+4)=.cells 1 (aI a6 (fo t n k).1.waits++a3):=by rw[<-ez];exact bM bF (by omega) _
 obtain⟨L,hU⟩:=K2 (H:=H) (H':=X) (by rw[<-ez,aX];omega) fun j aw=>by rw[<-ez,hI (by omega),aN _ (by omega) (by omega) (by omega),FG j aw]
 rw[ez];exact⟨L,.a0 [fN false false (fo t n k).1,.int .i64 ((fo t n k).2.getD 0),.bool (fo t n k).2.isSome],hU,.a0 _ _ rfl (dV (.agg _ _ rfl (dV (Hf _ (by omega) dZ rfl rfl) (dV (Hf _ (by omega) gh rfl rfl) gY))) (dV (.cl _ (.int _ _)) (dV (.cl _ (.bool _)) gY))),rfl⟩
theorem aEq(l:List cM)(p:cM->Bool)(i v lc n:Nat)(ag:n=l.length)(gE:n<=lc)(hl:n<=1073741824){fn:Fn}{fs cs:List I}(hx:ab->Prop)(wy:∀G b,hx G->hx (ai G i b))(tq:∀G L,hx G->hx (G++L))(H:ab)(ah:ao H i=.cells v (aI a6 l))
  (an:∀x G,hx G->h6 Tryz.prog (.func fn fs cs) [a6 x] G (fun r dt=>r=.bool (p x)∧dt=G)) (aJ:hx H):
  c5 Tryz.prog 166 [.osl 2 i v 0 n lc,.func fn fs cs] H (fun r H'=>∃rest,r=.osl 2 i v 0 (l.filter (fun x=> !p x)).length lc∧H'=ai H i (.cells v (aI a6 (l.filter (fun x=> !p x))++rest))∧rest.length=(n-(l.filter (fun x=> !p x)).length) * 2∧∀x∈rest,bO x):=by
 refine eJ Tryz.func166 ?_;have fI:=S5 l p i v lc n ag gE hl H ah (fun x=>an x H aJ)
 have kA:=c8 ah trivial;have dF:=an;simp only[a6]at dF;by_cases h1:eg p l= -1
 ·rw[h1]at fI;repeat' first|((first|refine ea (fI) (aA) ?_|refine ep (fI) (aA) ?_|refine er (fun _=>fI) (aA) ?_|refine ad ?_);simp only[go_sem,ah,Int.reduceEq])|refine bx ?_|(refine bD ?_ ?_<;>intro h<;>try exact bB h)|fail
  refine⟨H,[],_,(b2 _).symm,rfl,fun k b hk=>.inl hk,.cl _ (.osl _ _ _ _ _ _ kA),[],?_,?_,?_,fun x h=>(by cases h)⟩
  ·rw[uQ h1,ag]
  ·rw[uQ h1,b2];exact(kr ah trivial).symm
  ·rw[uQ h1,ag];simp
 ·obtain⟨A,x,B,rfl,au,bd,bE⟩:=Gg h1;rw[au]at fI;have cf:n=A.length+(B.length+1):=by simp[ag]
  have hd:decide (((A.length:Nat):Int)= -1)=false:=cg;have hw:IntKind.i64.wrap ((A.length:Int)+1)=((A.length+1:Nat):Int):=by rw[cB];rfl
  repeat' first|((first|refine ea (fI) (aA) ?_|refine ep (fI) (aA) ?_|refine er (fun _=>fI) (aA) ?_|refine ad ?_);simp only[go_sem,ah,hd,hw])|refine bx ?_|(refine bD ?_ ?_<;>intro h<;>try exact bB h)|fail
  generalize hU:A++x::B=L at *;refine b5 (ι:=Nat×Nat×List cM×ab) (fun s=>[(0,.osl 2 i v 0 n lc),(1,.func fn fs cs),(5,.int .i64 s.1),(6,.int .i64 s.2.1)])
   (fun s=>ai H i (.cells v (aI a6 s.2.2.1))++s.2.2.2) (fun s=>s.1<s.2.1∧s.2.1<=n∧s.2.2.1.length=n∧s.2.2.1.take s.1=(L.take s.2.1).filter (fun x=> !p x)∧s.2.2.1.drop s.2.1=L.drop s.2.1) (fun s=>n-s.2.1) (A.length,A.length+1,L,[])
   ⟨by simp,by simp only;omega,ag.symm,?_,rfl⟩ ?_ (by rw[b2];exact(kr ah trivial).symm) ?_
  ·simp only;rw[<-hU,s0,show A++x::B=(A++[x])++B by simp,show A.length+1=(A++[x]).length by simp,s0,ld,bE];simp[bd]
  ·simp[go_sem]
  ·rintro⟨k,j,E,M⟩ ⟨c4,dm,ee,dH,fD⟩;simp only at c4 dm ee dH fD ⊢;obtain⟨G,aT⟩:∃G,ai H i (.cells v (aI a6 E))++M=G:=⟨_,rfl⟩;rw[aT];have cw:ao G i=.cells v (aI a6 E):=by rw[<-aT];exact bQ (b:=.cells v (aI a6 E)) (dT kA _) trivial M
   have aZ:=bz cw trivial;have a7:=jI cw trivial;have zJ:hx G:=by rw[<-aT];exact tq _ _ (wy _ _ aJ)
   have gs:∀X,ai G i X=ai H i X++M:=fun X=>by rw[<-aT,gW (by rw[aX];exact kA),iQ]
   have ga:(aI a6 E).length=n * 2:=by rw[dE (s:=2) (fun _=>rfl),ee]
   by_cases aw:j<n
   ·have aH:decide ((j:Int)<(n:Int))=true:=b1;have kS:j<L.length:=by omega
    have wx:E[j]'(by omega)=L[j]:=by
     have a:=eo (l:=E) (i:=j) (by omega)
     have b:=eo kS;rw[fD,b]at a;exact(pr a).1.symm
    have od:=om (enc:=a6) (s:=2) (fun _=>rfl) (D:=E) (k:=j) (by omega)
    rw[wx]at od;simp only[a6,I.cells]at od;have ca:IntKind.i64.wrap ((j:Int)+1)=((j+1:Nat):Int):=by rw[cB];rfl
    have bT:IntKind.i64.wrap ((k:Int)+1)=((k+1:Nat):Int):=by rw[cB];rfl
    have fX:=w4 (enc:=a6) (s:=2) (fun _=>rfl) (D:=E) (k:=k) (by omega) L[j]
    simp only[a6,I.cells]at fX;have oU:L.take (j+1)=L.take j++[L[j]]:=eB kS;repeat' first|(refine ad ?_;simp only[go_sem,cw,aZ,aH,ga,od])|refine af ?_|fail
    refine sH (dF L[j] _ (tq _ _ zJ)) ?_;cases lH:p L[j]with
    |true=>
     simp only[go_sem];repeat' first|(refine ad ?_;simp only[go_sem])|refine bx ?_|(refine bD ?_ ?_<;>intro h<;>try exact bB h)|fail
     refine⟨(k,j+1,E,M++[.cells 0 (a6 L[j]).cells]),⟨by simp only;omega,by simp only;omega,ee,?_,?_⟩,by simp only;omega,⟨rfl,bH _ ca⟩,?_⟩
     ·simp only;rw[oU,ld,<-dH,mX,az (by simp[lH])];simp
     ·simp only;have a:=eo (l:=E) (i:=j) (by omega)
      have b:=eo kS;rw[fD,b]at a;exact(pr a).2.symm
     ·show G++[.cells 0 (a6 L[j]).cells]=_;rw[<-aT,cr]
    |false=>
     simp only[go_sem];repeat' first|(refine ad ?_;simp only[go_sem,cw,aZ,a7,ga,fX])|refine bx ?_|(refine bD ?_ ?_<;>intro h<;>try exact bB h)|fail
     refine⟨(k+1,j+1,E.set k L[j],M++[.cells 0 (a6 L[j]).cells]),⟨by simp only;omega,by simp only;omega,by simp only[gj];exact ee,?_,?_⟩,by simp only;omega,⟨bH _ bT,bH _ ca⟩,?_⟩
     ·simp only;rw[oU,ld,<-dH,mX,aF (by simp[lH]),eB (by simp;omega),vE,DN (bk _)]
      rfl
     ·simp only;rw[Hp (by omega)]
      have a:=eo (l:=E) (i:=j) (by omega)
      have b:=eo kS;rw[fD,b]at a;exact(pr a).2.symm
     ·show ai G i (.cells v (aI a6 (E.set k L[j])))++[.cells 0 (a6 L[j]).cells]=_;rw[gs,cr]
   ·have lB:j=n:=by omega
    subst lB;have aH:decide ((j:Int)<(j:Int))=false:=by simp
    repeat' first|(refine ad ?_;simp only[go_sem,cw,aZ,a7,aH,ga])|refine af ?_|fail
    rw[ag,eQ]at dH;obtain⟨F,lA⟩:∃F,F=L.filter (fun x=> !p x):=⟨_,rfl⟩
    rw[<-lA]at dH ⊢;have hk:k=F.length:=by rw[<-dH,e8];omega
    have zN:=dE (enc:=a6) (s:=2) (fun _=>rfl) F
    have dK:∀Z:List I,∃rest,dw (aI a6 E) (k * 2) Z=aI a6 F++rest∧(Z.length<=(j-k) * 2->rest.length=(j-k) * 2)∧((∀x∈Z,bO x)->∀x∈rest,bO x):=fun Z=>by
     have e:=m0 (A:=aI a6 F) (B:=aI a6 (E.drop k)) (off:=k * 2) (X:=Z) (by rw[zN,hk])
     rw[<-iu,<-dH,jf]at e;rw[dH]at e;refine⟨Z++(aI a6 (E.drop k)).drop Z.length,e,fun a2=>by rw[bt,gL,dE (s:=2) (fun _=>rfl),gL,ee];omega,fun a2 x J=>?_⟩
     rcases eX.1 J with J|J
     ·exact a2 x J
     ·exact(oX (fun x=>by simp only[go_sem]) (E.drop k) x (vG J))
    obtain⟨rest,ax,oh,a2⟩:=dK (List.flatMap I.cells (List.replicate (j-k) (.agg [.int .i64 0,.int .i64 0])));rw[ax,gs];have zG:∀c,ao (ai H i (.cells v c)++M) i=.cells v c:=fun c=>bQ (b:=.cells v c) (dT kA _) trivial M
    simp only[zG];refine⟨⟨trivial,by omega,by omega⟩,?_⟩
    repeat' first|(refine ad ?_;simp only[go_sem])|refine af ?_|fail
    have a2:=a2 fun x J=>by
     rw[rZ]at J;obtain⟨e,he,J⟩:=J;rw[y2]at he;obtain⟨-,rfl⟩:=he;simp only[I.cells,c7,jB,jD]at J;rcases J with rfl|rfl<;>first|exact .int _ _|exact .bool _|exact .str _|exact .sl _ _ (fun _ h=>by cases h)
    refine⟨_,M,_,rfl,by rw[aX],pI ?_,.cl _ (.osl _ _ _ _ _ _ kA),rest,by rw[hk],rfl,by rw[<-hk];exact oh (by rw[Gv (s:=2) (fun e he=>by rw[(y2.1 he).2];rfl),List.length_replicate];exact bk _),a2⟩
    intro x J;rcases eX.1 J with J|J
    ·exact(oX (fun x=>by simp only[go_sem]) F x J).cl _
    ·exact(a2 x J).cl _
theorem aBL{i:Nat}{n:Int}{G:ab}(hi:ao G i=.cells 0 [.int .i64 n])(s:cM):aY Tryz.prog 167 [a6 s,.ref i 0 0] G (.bool (decide (s.aR=n))):=by
 refine bh Tryz.func167 ?_;have iJ:=bz hi trivial;refine b0 a6.eq_1 ?_;exact bo (.refl _)
end
section
structure XV (H:ab) (t:eS) (n:Int) (f1 f2:Bool) (q:Nat) (s:eS×List cM) (G:ab):Prop where
 aS:q<=t.held.length
 hs:q3 (H.length+6) (H.length+4) (H.length+5) 1 1 t.held.length t.waits.length s.1 G
 ag:ao G (H.length+1)=.cells 0 [.int .i64 n]
 aj:ao G (H.length+2)=.cells 0 [.sl true [],.sl true []]
 ae:ao G (H.length+7)=.cells (s.2.length+1) (aI a6 s.2)
 pre:∀j,j<H.length->ao G j=ao H j
 len:H.length+8<=G.length
 pl:s.2.length<=q
 run:nx n (t.held.drop q) s=jX t n
theorem q3.app{p ay hD hF jc cL lw:Nat}{t:eS}{G:ab}(h:q3 p ay hD hF jc cL lw t G)(L:ab):q3 p ay hD hF jc cL lw t (G++L):=by
 obtain⟨aU,dq,bZ⟩:=h.h1;obtain⟨a3,aV,bm⟩:=h.h2;exact⟨bQ h.ae trivial L,⟨aU,bQ dq trivial L,bZ⟩,⟨a3,bQ aV trivial L,bm⟩⟩
theorem q3.put{p ay hD hF jc cL lw:Nat}{t:eS}{G:ab}(h:q3 p ay hD hF jc cL lw t G){i:Nat}(h1:i≠p)(h2:i≠ay)(h3:i≠hD)(b:bu):q3 p ay hD hF jc cL lw t (ai G i b):=by
 obtain⟨aU,dq,bZ⟩:=h.h1;obtain⟨a3,aV,bm⟩:=h.h2;exact⟨bM h.ae h1 _,⟨aU,bM dq h2 _,bZ⟩,⟨a3,bM aV h3 _,bm⟩⟩
theorem De{H M:ab}(h:∀j,j<H.length->ao M j=ao H j)(hl:H.length<=M.length)(L:ab):∀j,j<H.length->ao (M++L) j=ao H j:=fun j aw=>by
 rw[<-h j aw];simp only[ao,eP];rw[iC (by omega)]
theorem aBM(f1 f2:Bool)(t:eS)(n:Int)(h1:t.held.length<=1000000)(h2:t.waits.length<=1000000)(H:ab):aY Tryz.prog 118 [fN f1 f2 t,.int .i64 n] H (.a0 [fN false false (jX t n).1,.sl false ((jX t n).2.map a6)]):=by
 refine bh Tryz.func118 ?_;have mh:=LC f1 f2 t h1 h2;simp only[fN]at mh;refine b0 fN.eq_1 ?_;obtain⟨eI,tr⟩:∃eI,H++[bu.cells 0 [.sl f1 (t.held.map a6),.sl f2 (t.waits.map a6)],bu.cells 0 [.int .i64 n],bu.cells 0 [.sl true [],.sl true []]]=eI:=⟨_,rfl⟩;rw[tr];have lF:eI.length=H.length+3:=by rw[<-tr];simp
 have n5:ao eI H.length=.cells 0 [.sl f1 (t.held.map a6),.sl f2 (t.waits.map a6)]:=by rw[<-tr];simp only[go_sem]
 have dq:ao eI (H.length+1)=.cells 0 [.int .i64 n]:=by rw[<-tr];simp only[go_sem]
 have bZ:ao eI (H.length+2)=.cells 0 [.sl true [],.sl true []]:=by rw[<-tr];simp only[go_sem]
 refine c6 (mh _) (aA) ?_;rintro v H' ⟨rfl,rfl⟩;have hs:=TP f1 f2 t eI;have n5:=bQ n5 trivial (qK eI.length f1 f2 t);have dq:=bQ dq trivial (qK eI.length f1 f2 t);have bZ:=bQ bZ trivial (qK eI.length f1 f2 t);have cH:(eI++qK eI.length f1 f2 t).length=H.length+7:=by rw[bt,lF];rfl
 have FG:∀j,j<H.length->ao (eI++qK eI.length f1 f2 t) j=ao H j:=fun j aw=>by rw[<-tr,cr];simp only[ao,eP];rw[iC aw]
 obtain⟨G,aT⟩:∃G,eI++qK eI.length f1 f2 t=G:=⟨_,rfl⟩;rw[aT]at hs n5 dq bZ cH FG ⊢;rw[lF]at hs;obtain⟨aQ,⟨aU,aO,aLu,aLv⟩,⟨a3,bF,aLw,aS3⟩⟩:q3 (H.length+6) (H.length+4) (H.length+5) 1 1 t.held.length t.waits.length t G:=hs;have o8:a3=[]:=by
  have ar:=dE (enc:=a6) (s:=2) (fun _=>rfl) t.waits
  rw[bt,ar]at aLw;exact jg (by omega)
 subst o8;rw[b2]at bF;simp only[go_sem];have aV:=bz aQ trivial;refine bW ?_;refine c6 (aEq t.waits (fun w=>decide (w.aR=n)) (H.length+5) 1 t.waits.length t.waits.length rfl (bk _) (by omega) (fun dt=>ao dt (H.length+1)=.cells 0 [.int .i64 n]) (fun dt b h=>bM h (by omega) b) (fun dt L h=>bQ h trivial L) G bF (fn:=.func 167) (fs:=[]) (cs:=[.ref (H.length+1) 0 0]) (fun x dt aJ=>.inl ⟨aA,aBL aJ x⟩) dq) (aA) ?_
 rintro v H' ⟨rest,rfl,rfl,oh,JG⟩;have i5:=c8 bF trivial;have i6:=c8 aQ trivial;obtain⟨W,hg⟩:∃W,W=t.waits.filter fun w=> !decide (w.aR=n):=⟨_,rfl⟩
 rw[<-hg]at oh ⊢;have I9:W.length<=t.waits.length:=by rw[hg];exact nX ..
 obtain⟨dd,ek⟩:∃dd,ai G (H.length+5) (.cells 1 (aI a6 W++rest))=dd:=⟨_,rfl⟩;have cK:ao dd (H.length+6)=.cells 0 [.osl 2 (H.length+4) 1 0 t.held.length t.held.length,.osl 2 (H.length+5) 1 0 t.waits.length t.waits.length]:=by rw[<-ek];exact bM aQ (by omega) _
 rw[ek];have P9:∀X,ao (ai dd (H.length+6) X) H.length=.cells 0 [.sl f1 (t.held.map a6),.sl f2 (t.waits.map a6)]:=fun X=>by rw[<-ek];exact bM (bM n5 (by omega) _) (by omega) _
 simp only[go_sem];repeat' first|(refine ad ?_;simp only[go_sem,cK,P9])|refine af ?_|fail
 obtain⟨cZ,fh⟩:∃cZ,ai dd (H.length+6) (.cells 0 [.osl 2 (H.length+4) 1 0 t.held.length t.held.length,.osl 2 (H.length+5) 1 0 W.length t.waits.length])=cZ:=⟨_,rfl⟩;have cO:cZ.length=H.length+7:=by rw[<-fh,aX,<-ek,aX,cH]
 have l1:∀{j b},ao G j=b->j≠H.length+5->j≠H.length+6->ao cZ j=b:=fun h ar au=>by rw[<-fh,<-ek];exact bM (bM h (by omega) _) (by omega) _
 have Ae:q3 (H.length+6) (H.length+4) (H.length+5) 1 1 t.held.length t.waits.length ⟨t.held,W⟩ cZ:=by
  refine⟨by rw[<-fh];exact dT (by rw[<-ek,aX];exact i6) _,⟨aU,l1 aO (by omega) (by omega),aLu,aLv⟩,⟨rest,?_,?_,JG⟩⟩
  ·rw[<-fh];refine bM ?_ (by omega) _;rw[<-ek];exact dT i5 _
  ·rw[bt,dE (s:=2) (fun _=>rfl),oh];simp only;omega
 rw[fh];have fG:=l1 n5 (by omega) (by omega)
 have cc:=l1 dq (by omega) (by omega)
 have cI:=l1 bZ (by omega) (by omega)
 refine sF 8 2 rfl ?_;rw[cO];refine b5 (ι:=Nat×(eS×List cM)×ab) (fun s=>[(3,.ref (H.length+1) 0 0),(4,.ref (H.length+2) 0 0),(6,.ref (H.length+6) 0 0),(7,.func (.func 114) [.ref (H.length+6) 0 0] []),(8,.osl 2 (H.length+7) (s.2.1.2.length+1) 0 s.2.1.2.length s.2.1.2.length),(29,.sl f1 (t.held.map a6)),(30,.int .i64 t.held.length),(31,.int .i64 s.1)])
  (fun s=>s.2.2) (fun s=>XV H t n f1 f2 s.1 s.2.1 s.2.2) (fun s=>t.held.length-s.1) (0,(⟨t.held,W⟩,[]),cZ++[.cells 1 []]) ?_ ?_ rfl ?_
 ·refine⟨bG _,Ae.app _,bQ cc trivial _,bQ cI trivial _,?_,De (fun j aw=>?_) (by omega) _,?_,bk _,by rw[hg];rfl⟩
  ·rw[<-cO];exact rf _ _
  ·rw[<-FG j aw,<-fh,<-ek,hI (by omega),hI (by omega)]
  ·rw[bt,cO];simp
 ·simp[go_sem]
 rintro⟨q,⟨xe,ps⟩,M⟩ hd;simp only at hd ⊢;obtain⟨c4,dm,ee,dH,fD,yR,XK,aL4,qQ⟩:=hd;simp only at dm ee dH fD yR XK aL4;by_cases ak:q<t.held.length
 ·have aH:decide ((q:Int)<(t.held.length:Int))=true:=b1;have ae:=dg a6 ak;have hw:=dW ak (by omega)
  rw[eo ak]at qQ;unfold nx at qQ;have GP:=bz ee trivial;by_cases he:t.held[q].aR=n
  ·rw[aF he]at qQ;have zB:decide (t.held[q].aR=n)=true:=cF he;have den:(!decide (t.held[q].aR=n))=false:=by rw[zB];rfl
   repeat' first|(refine ad ?_;simp only[go_sem,aH,ae,a6,ee,GP,zB,den])|refine af ?_|fail
   obtain⟨y8,Fa⟩:∃y8,M++[bu.cells 0 [.int .i64 t.held[q].lock,.int .i64 t.held[q].aR]]=y8:=⟨_,rfl⟩;have dm:=dm.app [bu.cells 0 [.int .i64 t.held[q].lock,.int .i64 t.held[q].aR]];have ee:=bQ ee trivial [bu.cells 0 [.int .i64 t.held[q].lock,.int .i64 t.held[q].aR]];have dH:=bQ dH trivial [bu.cells 0 [.int .i64 t.held[q].lock,.int .i64 t.held[q].aR]];have fD:=bQ fD trivial [bu.cells 0 [.int .i64 t.held[q].lock,.int .i64 t.held[q].aR]];have yR:=De yR (by omega) [bu.cells 0 [.int .i64 t.held[q].lock,.int .i64 t.held[q].aR]]
   have XI:ao (M++[bu.cells 0 [.int .i64 t.held[q].lock,.int .i64 t.held[q].aR]]) M.length=.cells 0 [.int .i64 t.held[q].lock,.int .i64 t.held[q].aR]:=rf _ _;have aTb:y8.length=M.length+1:=by rw[<-Fa];simp
   rw[Fa]at dm ee dH fD yR XI ⊢;refine qy (first:=[.ref (H.length+6) 0 0]) (cap:=[]) (S6 dm (by omega) (by omega) (by omega) h1 h2 n t.held[q].lock) aA ?_
   rintro v H' ⟨rfl,ic,sw,og⟩;unfold Eo;have mA:ao H' (H.length+1)=_:=(og _ (by omega) (by omega) (by omega)).trans ee
   have Dy:ao H' (H.length+2)=_:=(og _ (by omega) (by omega) (by omega)).trans dH
   have Dz:ao H' (H.length+7)=_:=(og _ (by omega) (by omega) (by omega)).trans fD
   have P0:∀j,j<H.length->ao H' j=ao H j:=fun j aw=>(og _ (by omega) (by omega) (by omega)).trans (yR j aw)
   have aTc:ao H' M.length=_:=(og _ (by omega) (by omega) (by omega)).trans XI
   simp only[go_sem];cases an:(fo xe n t.held[q].lock).2 with
   |none=>
    rw[an]at qQ;simp only at qQ;simp only[Be,A8];repeat' first|(refine ad ?_;simp only[go_sem])|refine af ?_|fail
    exact⟨(q+1,((fo xe n t.held[q].lock).1,ps),H'),⟨ak,ic,mA,Dy,Dz,P0,by simp only;omega,by simp only;omega,qQ⟩,by simp only;omega,⟨⟨rfl,bH _ hw⟩,rfl⟩⟩
   |some j=>
    rw[an]at qQ;simp only at qQ;simp only[oJ,xp];have eu:=dE (enc:=a6) (s:=2) (fun _=>rfl) ps
    have aTd:=bz Dz trivial;have aTe:=jI Dz trivial;have aP:(ps.length * 16+16<=140737488355328)=True:=bJ (by omega)
    refine bW ?_;refine⟨⟨fun e he=>by rw[he];rfl,by omega⟩,?_⟩
    repeat' first|(refine ad ?_;simp only[go_sem])|refine af ?_|fail
    exact⟨(q+1,((fo xe n t.held[q].lock).1,ps++[⟨t.held[q].lock,j⟩]),ai H' (H.length+7) (.cells (ps.length+2) (aI a6 (ps++[⟨t.held[q].lock,j⟩])))),
     ⟨ak,ic.put (by omega) (by omega) (by omega) _,bM mA (by omega) _,bM Dy (by omega) _,by simp only[bt,cm,ew];exact dT (by omega) _,fun j aw=>by rw[hI (by omega),P0 j aw],by simp only[aX];omega,by simp only[bt,cm,ew];omega,qQ⟩,by simp only;omega,⟨⟨by simp only[bt,cm,ew],bH _ hw⟩,by rw[iu];rfl⟩⟩
  ·rw[az he]at qQ;have zB:decide (t.held[q].aR=n)=false:=b8 he;have den:(!decide (t.held[q].aR=n))=true:=by rw[zB];rfl
   repeat' first|(refine ad ?_;simp only[go_sem,aH,ae,a6,ee,GP,zB,den])|refine af ?_|fail
   exact⟨(q+1,(xe,ps),M++[.cells 0 [.int .i64 t.held[q].lock,.int .i64 t.held[q].aR]]),⟨ak,dm.app _,bQ ee trivial _,bQ dH trivial _,bQ fD trivial _,De yR (by omega) _,by simp only[bt];omega,by simp only;omega,qQ⟩,by simp only;omega,⟨⟨rfl,bH _ hw⟩,rfl⟩⟩
 ·have wI:q=t.held.length:=by omega
  subst wI;have aH:decide ((t.held.length:Int)<(t.held.length:Int))=false:=by simp
  rw[l7]at qQ;unfold nx at qQ;obtain⟨aQ,⟨aU,aO, -, -⟩,⟨a3,bF, -, -⟩⟩:=dm;have aIs:=fun v X=>dT (c8 dH trivial) (.cells v X)
  refine bW ?_;obtain⟨X,ez⟩:∃X,ai M (H.length+2) (bu.cells 0 [.osl 2 (H.length+4) 1 0 xe.held.length t.held.length,.osl 2 (H.length+5) 1 0 xe.waits.length t.waits.length])=X:=⟨_,rfl⟩;have dZ:ao X (H.length+4)=.cells 1 (aI a6 xe.held++aU):=by rw[<-ez];exact bM aO (by omega) _
  have gh:ao X (H.length+5)=.cells 1 (aI a6 xe.waits++a3):=by rw[<-ez];exact bM bF (by omega) _
  have A5:ao X (H.length+7)=.cells (ps.length+1) (aI a6 ps++[]):=by rw[<-ez,b2];exact bM fD (by omega) _
  obtain⟨L,hU⟩:=K2 (H:=H) (H':=X) (by rw[<-ez,aX];omega) fun j aw=>by rw[<-ez,hI (by omega),yR j aw]
  rw[ez,<-qQ];exact⟨L,.a0 [fN false false xe,.sl false (ps.map a6)],hU,.a0 _ _ rfl (dV (.agg _ _ rfl (dV (Hf _ (by omega) dZ rfl rfl) (dV (Hf _ (by omega) gh rfl rfl) gY))) (dV (Hf _ (by omega) A5 rfl rfl) gY)),rfl⟩
end
end Go.Proofs.YthafnbmdmfoobaaGreatDoor
