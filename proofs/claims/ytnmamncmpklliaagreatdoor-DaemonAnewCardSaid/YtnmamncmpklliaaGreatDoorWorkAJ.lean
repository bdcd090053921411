/- What the functions of this seat answer (10 of 53). No condition. -/
import Derived.Test.YtnmamncmpklliaaGreatDoorWorkAH
import Derived.Test.YtnmamncmpklliaaGreatDoorWorkAI
set_option linter.unusedSimpArgs false
set_option linter.unusedVariables false
set_option linter.unusedSectionVars false
set_option maxRecDepth 100000
set_option maxHeartbeats 16000000
namespace Go.Proofs.YtnmamncmpklliaaGreatDoor
variable{H G L X:ab}{i n k N:Nat}{x y:Code}{Q:cX}{α:a7}{ι:Type}{b:UInt8}{l:List UInt8}{p:ag}{has bM:List Int}{P:Program}
open Go.Proofs.Tryz
theorem oN(H:ab)(i:Nat)(b:bE):(ar H i b).length=H.length:=by simp[ar]
theorem ho{j:Nat}(h:i≠j)(b:bE):ay (ar H i b) j=ay H j:=by
 simp only[ay,ar,et];rw[gC h]
theorem yX(h:i<H.length)(b:bE):ay (ar H i b) i=b:=by
 simp only[ay,ar,et];rw[rH h];rfl
theorem y3(h:G.length=n):ay (G++L) (n+k)=L.getD k .gone:=by subst h;exact F2 _ _ _
theorem ur(h:G.length=n):ay (G++L) n=L.getD 0 .gone:=by subst h;exact vY _ _
theorem Jv(h:G.length=n)(b:bE):ar (G++L) (n+k) b=G++L.set k b:=by subst h;exact Oj _ _ _ _
theorem Of(h:G.length=n)(b:bE):ar (G++L) n b=G++L.set 0 b:=by subst h;exact Vf _ _ _
theorem VH(es:List fu)(e:fu):((es++[e]).map dv).flatMap I.cells=(es.map dv).flatMap I.cells++(dv e).cells:=by
 rw[nQ,tE];simp
theorem aKe(b:Bool)(es:List fu)(n:List aE)(o:aX)(hs:hD o)(hl:n.length<=1000000000)(he:es.length<=1000000)(H:ab)(i j:Nat)(K:i≠j)
  (hi:ay H i=.cells 0 [.sl b (n.map ba)]) (U:ay H j=.cells 0 [.sl true (es.map dv)]):
  dp prog 131 [bh o,.ref i 0 0,.ref j 0 0] H (λx H'=>x=.aQ []/\
   ∃gb aO,H'=ar (ar H i<|.cells 0 [.sl false ((dX n o).map ba)]) j (.cells 0 [.osl 17 (H.length+2) 1 0 (es.length+1) (es.length+1)])++([gb,aO,.cells 1<|((es++[(⟨o,kh n o⟩:fu)]).map dv).flatMap I.cells]:ab)):=by
 refine p3 func131 ?_;have O:=YX b n o hs hl;have T:=λL=>b3 hi trivial L
 have V:i<H.length:=dk hi trivial;have Z:j<H.length:=dk U trivial;have f1:=λL b=>hX V L b
 have f2:=λb=>oN H i b
 have f3:∀L b k,ay (ar H i b++L) (H.length+k)=L.getD k .gone:=λL b k=>y3<|oN H i b
 have f30:∀L b,ay (ar H i b++L) H.length=L.getD 0 .gone:=λL b=>ur<|oN H i b
 have f4:∀L b k J,ar (ar H i b++L) (H.length+k) J=ar H i b++L.set k J:=λL b k J=>Jv (oN H i b) J
 have f5:∀L b,ay (ar H i b++L) j=.cells 0 [.sl true (es.map dv)]:=λL b=>b3 ((ho K b).trans U) trivial L
 have f6:∀L b J,ar (ar H i b++L) j J=ar (ar H i b) j J++L:=λL b J=>hX (by rw[oN];exact Z) L J
 have z:=VH es ⟨o,kh n o⟩;have dV:=TN es;simp only[bh,xS]at O ⊢;repeat' first|(refine ae ?_;simp only[go_sem,hi,U,T,f1,f2,f3,f30,f4,f5,f6,dV])|refine bt ?_|(refine bB ?_ ?_<;>intro h<;>try exact bA h)|fail
 rw[z];exact⟨⟨.inr trivial,λe he=>by rw[he];rfl,iV⟩,_,_,rfl⟩
theorem aKf(b:Bool)(es:List fu)(n:List aE)(o:aX)(hs:hD o)(hl:n.length<=1000000000)(he:es.length<=1000000)(H:ab)(i j k v:Nat)(T:i≠j)(O:i≠k)(V:j≠k)(Z:v≠0)
  (hi:ay H i=.cells 0 [.sl b (n.map ba)]) (U:ay H j=.cells 0 [.osl 17 k v 0 es.length es.length]) (hk:ay H k=.cells v ((es.map dv).flatMap I.cells)):
  dp prog 131 [bh o,.ref i 0 0,.ref j 0 0] H (λx H'=>x=.aQ []/\
   ∃gb aO,H'=ar (ar (ar H i (.cells 0 [.sl false ((dX n o).map ba)])) k<|.cells (v+1) (((es++[(⟨o,kh n o⟩:fu)]).map dv).flatMap I.cells)) j (.cells 0 [.osl 17 k (v+1) 0 (es.length+1) (es.length+1)])++([gb,aO]:ab)):=by
 refine p3 func131 ?_;have z:=YX b n o hs hl;have hS:=λL=>b3 hi trivial L
 have Rk:i<H.length:=dk hi trivial;have Rn:j<H.length:=dk U trivial;have Cq:k<H.length:=dk hk trivial;have f1:=λL b=>hX Rk L b
 have f2:=λb=>oN H i b
 have f3:∀L b k,ay (ar H i b++L) (H.length+k)=L.getD k .gone:=λL b k=>y3<|oN H i b
 have f30:∀L b,ay (ar H i b++L) H.length=L.getD 0 .gone:=λL b=>ur<|oN H i b
 have f4:∀L b k J,ar (ar H i b++L) (H.length+k) J=ar H i b++L.set k J:=λL b k J=>Jv (oN H i b) J
 have f5:∀L b,ay (ar H i b++L) j=.cells 0 [.osl 17 k v 0 es.length es.length]:=λL b=>b3 ((ho T b).trans U) trivial L
 have f6:∀L b,ay (ar H i b++L) k=.cells v ((es.map dv).flatMap I.cells):=λL b=>b3 ((ho O b).trans hk) trivial L
 have f7:∀L b J,ar (ar H i b++L) k J=ar (ar H i b) k J++L:=λL b J=>hX (by rw[oN];exact Cq) L J
 have f8:∀L b J K,ar (ar (ar H i b) k J++L) j K=ar (ar (ar H i b) k J) j K++L:=λL b J K=>hX (by rw[oN,oN];exact Rn) L K
 have f9:∀L b J,ay (ar (ar H i b) k J++L) j=.cells 0 [.osl 17 k v 0 es.length es.length]:=λL b J=>b3 ((ho V.symm J).trans ((ho T b).trans U)) trivial L
 have Qw:=VH es ⟨o,kh n o⟩;have dV:=TN es;have dH:(List.flatMap I.cells (es.map dv)).length=es.length * 17:=(Je (Oe es)).trans<|by rw[cv]
 simp only[bh,xS]at z ⊢;repeat' first|(refine ae ?_;simp only[go_sem,hi,U,hS,f1,f2,f3,f30,f4,f5,f6,f7,f8,f9,dV,dH,Z])|refine bt ?_|(refine bB ?_ ?_<;>intro h<;>try exact bA h)|fail
 rw[Qw];exact⟨⟨λe he=>by rw[he];rfl,iV⟩,_,_,rfl⟩
def yk{ι:Type}(F:ι->a7)(e6:ι->ab)(pre:ι->Prop)(Q:cX):cX
 |.normal,α,H=>∃y,pre y/\yn (F y) α/\H=e6 y
 |e,α,H=>Q e α H
section
variable {ι:Type} (F:ι->a7) (e6:ι->ab) (pre:ι->Prop) (Q:cX) (α:a7) (H:ab)
@[go_sem] theorem aTi:yk F e6 pre Q .normal α H=∃y,pre y/\yn (F y) α/\H=e6 y:=rfl
@[go_sem] theorem aUQ(i:Nat):yk F e6 pre Q (.exit i) α H=Q (.exit i) α H:=rfl
@[go_sem] theorem aVj:yk F e6 pre Q .ret α H=Q .ret α H:=rfl
end
theorem zH(F:ι->a7)(e6:ι->ab)(pre:ι->Prop)(h1:cI P N x (yk F e6 pre Q) α H)(h2:∀i,pre i->cI P N y Q (F i) (e6 i)):cI P N (.seq x y) Q α H:=by
 refine GX<|GH h1 λe J H' h=>?_
 cases e with
 |normal=>
  obtain⟨i,ad,hs,rfl⟩:=h;exact NO (h2 i ad)<|s4 hs
 |_=>exact h
theorem qD{id:Nat}(F:ι->a7)(e6:ι->ab)(pre:ι->Prop)(h1:cI P N x (rm id<|yk F e6 pre Q) α H)(h2:∀i,pre i->cI P N y Q (F i) (e6 i)):cI P N x (rm id<|wP P N y Q) α H:=by
 refine GH h1 λe J H' h=>?_
 have key:yk F e6 pre Q .normal J H'->wP P N y Q .normal J H':=fun⟨i,ad,hs,hH⟩=>by subst hH;exact NO (h2 i ad)<|s4 hs
 cases e with
 |normal=>exact key h
 |exit i=>
  simp only[rm]at h ⊢;by_cases hi:i==id
  ·rw[hi,tG]at h ⊢;exact key h
  ·have U:(i==id)=false:=by simpa using hi
   rw[U,sI]at h ⊢;exact h
 |_=>exact h
def Fk:List cu:=[.pure 0,.pure 0,.pure 0,.pure 0,.pure 0,.eff [true,true,true,true,true],.eff [true,true,true,false,false],.free]
attribute [go_sem] Fk
def Jw(o:aX):List I:=[.int .i64 o.at_.c,.int .i64 o.at_.r,.int .i64 o.kind,.int .i64 o.node,.int .i64 o.parent,.str o.name,.str o.data]
def BX(g:fC)(e:Int):I:=.aQ [CQ g,.int .i64 e]
def aL6(l:List fu):Prop:=∀e∈l,hD e.op
theorem VI:∀(i:Nat) (x y:I),([]:List I)[i]?=some x->([]:List I)[i]?=some y->cL n H x y:=λ_ _ _ h=>by simp at h
theorem Nc{a b:I}{cs bk:List I}(h:cL n H a b)(hs:∀(i:Nat) (x y:I),cs[i]?=some x->bk[i]?=some y->cL n H x y):∀(i:Nat) (x y:I),(a::cs)[i]?=some x->(b::bk)[i]?=some y->cL n H x y
 |0,x,y,J,U=>by simp at J U;subst J;subst U;exact h
 |i+1,x,y,J,U=>hs i x y (by simpa using J)<|by simpa using U
theorem Yu{M:ab}(aW:H++(M++L)=G):G++X=H++(M++(L++X)):=by rw[<-aW];simp only[dr]
theorem mZ(h:∃M,X=H++M)(hi:H.length<=i)(b:bE):∃M,ar X i b=H++M:=by
 obtain⟨M,rfl⟩:=h;obtain⟨k,rfl⟩:∃k,i=H.length+k:=⟨i-H.length,iV⟩
 exact⟨M.set k b,Oj _ _ _ _⟩
theorem DL(h:∃M,X=H++M)(L:ab):∃M,X++L=H++M:=by
 obtain⟨M,rfl⟩:=h;exact⟨M++L,dr ..⟩
theorem YO(aO bo:Bool)(g:fC)(o:aX)(hs:hD o)(vE:aL6 g.entries)(h2:g.nodes.length<=1000000)(h1:g.entries.length<=1000000)(H:ab):aM prog 77 [om aO bo g,bh o] H (BX (fc g o)<|nR g o):=by
 have bn:=Dd o hs;have jF:=Yk aO bo g iV iV
 have Cm:=Yr aO bo g o.at_;refine aZ func77 ?_;have jC:=o9 [(7,Fk)];simp only[bh,CQ,om,C6,BX]at bn jF Cm ⊢;cases U:b0 o with
 |false=>
  rw[fc,aA U,nR,aA U];refine hH ?_;exact aV<|.refl _
 |true=>
  cases z:rv g.entries o.at_ with
  |true=>
   rw[fc,aj (by rw[U];decide),aA z,nR,aj (by rw[U];decide),aA z]
   refine hH ?_;exact aV<|.refl _
  |false=>
   by_cases hm:(200:Int)<=(g.entries.length:Int)
   ·rw[fc,aj (by rw[U];decide),aj (by rw[z];decide),aA hm,nR,aj (by rw[U];decide),aj (by rw[z];decide),aA hm]
    refine hH ?_;exact aV<|.refl _
   ·rw[fc,aj (by rw[U];decide),aj (by rw[z];decide),aj hm,nR,aj (by rw[U];decide),aj (by rw[z];decide),aj hm]
    refine hH ?_;have vy:=λl e u hl=>aKc false l e u hl
    simp only[bh,xS]at vy;refine Kj (H.length+3) [.sl false (g.nodes.map ba)] (v:=0) (cs:=[.sl bo (g.nodes.map ba)]) nb rfl (c6 (.sl _ _) kZ) ?_
    simp only[go_sem];refine qD (ι:=Nat×List aE×ab)
     (λx=>[(2,.ref H.length 0 0),(3,.ref (H.length+1) 0 0),(4,.ref (H.length+2) 0 0),(6,.ref (H.length+3) 0 0),(7,.int .i64 ((g.entries.length-x.1:Nat):Int))])
     (λx=>H++([.cells 0 [.sl aO (g.entries.map dv),.sl bo<|g.nodes.map ba],.cells 0<|Jw o,.cells 0 [.sl true [],.sl true []],.cells 0 [.sl false (x.2.1.map ba)]]++x.2.2))
     (λx=>x.1<=g.entries.length/\x.2.1.length<=g.nodes.length+x.1/\iT o.at_ g.entries.reverse g.nodes=(x.1,x.2.1)) ?_ ?_
    ·refine cE (ι:=Nat×List aE×ab)
      (λx=>[(2,.ref H.length 0 0),(3,.ref (H.length+1) 0 0),(4,.ref (H.length+2) 0 0),(6,.ref (H.length+3) 0 0),(7,.int .i64 ((g.entries.length-x.1:Nat):Int)),(41,.int .i64 g.entries.length),(42,.int .i64 x.1)])
      (λx=>H++([.cells 0 [.sl aO (g.entries.map dv),.sl bo<|g.nodes.map ba],.cells 0<|Jw o,.cells 0 [.sl true [],.sl true []],.cells 0 [.sl false (x.2.1.map ba)]]++x.2.2))
      (λx=>x.1<=g.entries.length/\x.2.1.length<=g.nodes.length+x.1/\iT o.at_ g.entries.reverse g.nodes=(x.1+(iT o.at_ (g.entries.reverse.drop x.1) x.2.1).1,(iT o.at_ (g.entries.reverse.drop x.1) x.2.1).2)) (λx=>g.entries.length-x.1) (0,g.nodes,[]) ⟨bW _,bd _,kk⟩ ?_ (by simp[Jw]) ?_
     ·simp[go_sem]
     ·rintro⟨i,n,L⟩ ⟨hi,af,he⟩;simp only[Jw]at hi af he ⊢;generalize aW:H++([bE.cells 0 [I.sl aO (g.entries.map dv),.sl bo<|g.nodes.map ba],.cells 0 [.int .i64 o.at_.c,.int .i64 o.at_.r,.int .i64 o.kind,.int .i64 o.node,.int .i64 o.parent,.str o.name,.str o.data],.cells 0 [.sl true [],.sl true []],.cells 0 [.sl false (n.map ba)]]++L)=G;have Mh:H.length+3<G.length:=by rw[<-aW];simp
      have wg:ay G H.length=.cells 0 [I.sl aO (g.entries.map dv),.sl bo<|g.nodes.map ba]:=by rw[<-aW];simp only[go_sem]
      have aP:ay G (H.length+1)=.cells 0 [.int .i64 o.at_.c,.int .i64 o.at_.r,.int .i64 o.kind,.int .i64 o.node,.int .i64 o.parent,.str o.name,.str o.data]:=by rw[<-aW];simp only[go_sem]
      have T:ay G (H.length+3)=.cells 0 [.sl false (n.map ba)]:=by rw[<-aW];simp only[go_sem]
      have MW:=λM=>b3 wg trivial M
      have SD:=λM=>b3 aP trivial M
      have SE:=λM=>b3 T trivial M
      have bG:=λM b=>hX Mh M b
      have aRj:∀b,ar G (H.length+3) b=H++([bE.cells 0 [I.sl aO (g.entries.map dv),.sl bo<|g.nodes.map ba],.cells 0 [.int .i64 o.at_.c,.int .i64 o.at_.r,.int .i64 o.kind,.int .i64 o.node,.int .i64 o.parent,.str o.name,.str o.data],.cells 0 [.sl true [],.sl true []],b]++L):=λb=>by rw[<-aW];simp only[go_sem]
      by_cases J:i<g.entries.length
      ·have qi:g.entries.length-1-i<g.entries.length:=iV
       have ad:=di dv qi;have av:IntKind.i64.wrap (IntKind.i64.wrap ((g.entries.length:Int)-1)-(i:Int))=((g.entries.length-1-i:Nat):Int):=by
        rw[wrap_i64 (n:=(g.entries.length:Int)-1) iV iV,bI];omega
       have jZ:g.entries.reverse.drop i=g.entries[g.entries.length-1-i]::g.entries.reverse.drop (i+1):=by
        rw[ij (by simpa using J)]
        congr 1;rw[List.getElem_reverse]
       rw[jZ,iT]at he;repeat' first|((first|refine cx (O9 _ _ _ _) ?_|refine hY (vy _ _ _ (by first|assumption|decide|omega|(simp_all;done)|(simp_all;omega)) _) aK ?_|refine kf (vy _ _ _ (by first|assumption|decide|omega|(simp_all;done)|(simp_all;omega)) _) aK ?_|refine kg (λ_=>vy _ _ _ (by first|assumption|decide|omega|(simp_all;done)|(simp_all;omega)) _) aK ?_|refine mx [7] Fk ?_|refine ae ?_);simp only[go_sem,ad,dv,av,wg,aP,T,MW,SD,SE,bG])|refine bt ?_|(refine bB ?_ ?_<;>intro h<;>try exact bA h)|fail
       ·have ko:¬lK o.at_ g.entries[g.entries.length-1-i].op.at_=true:=by
         rw[x2];unfold lK;simpa using h
        rw[aj ko]at he;exact⟨(i,n,L++[_]),⟨hi,af,by rw[he];rfl⟩,rfl,Yu aW⟩
       ·have ko:lK o.at_ g.entries[g.entries.length-1-i].op.at_=true:=by unfold lK;simpa using h
        rw[aA ko]at he;have qe:=Vn n g.entries[g.entries.length-1-i].op g.entries[g.entries.length-1-i].mC;refine⟨(i+1,tl n g.entries[g.entries.length-1-i].op g.entries[g.entries.length-1-i].mC,L++[_]),⟨J,by simp only;omega,by rw[he];simp only[Prod.mk.injEq,and_true];omega⟩,by simp only;omega,⟨bU _ ?_,bU _<|dA J iV⟩,Yu (aRj _).symm⟩
        simp only;rw[bI];omega
      ·repeat' first|((first|refine mx [7] Fk ?_|refine ae ?_);simp only[go_sem,wg,aP,T,J])|refine ao ?_|fail
       have Me:i=g.entries.length:=iV
       have Q5:g.entries.reverse.drop i=[]:=List.drop_of_length_le nX
       rw[Q5]at he;exact⟨(i,n,L),⟨hi,af,by rw[he];rfl⟩,rfl,by rw[<-aW];simp only[go_sem]⟩
    ·rintro⟨c,n,L⟩ ⟨au,af,he⟩;simp only[Jw]at au af he ⊢;rw[he];simp only;generalize aW:H++([bE.cells 0 [I.sl aO (g.entries.map dv),.sl bo<|g.nodes.map ba],.cells 0 [.int .i64 o.at_.c,.int .i64 o.at_.r,.int .i64 o.kind,.int .i64 o.node,.int .i64 o.parent,.str o.name,.str o.data],.cells 0 [.sl true [],.sl true []],.cells 0 [.sl false (n.map ba)]]++L)=G;have Mh:H.length+3<G.length:=by rw[<-aW];simp
     have aAQ:∃M,G=H++M:=⟨_,aW.symm⟩;have wg:ay G H.length=.cells 0 [I.sl aO (g.entries.map dv),.sl bo<|g.nodes.map ba]:=by rw[<-aW];simp only[go_sem]
     have aP:ay G (H.length+1)=.cells 0 [.int .i64 o.at_.c,.int .i64 o.at_.r,.int .i64 o.kind,.int .i64 o.node,.int .i64 o.parent,.str o.name,.str o.data]:=by rw[<-aW];simp only[go_sem]
     have aR:ay G (H.length+2)=.cells 0 [.sl true [],.sl true []]:=by rw[<-aW];simp only[go_sem]
     have T:ay G (H.length+3)=.cells 0 [.sl false (n.map ba)]:=by rw[<-aW];simp only[go_sem]
     have MW:=λM=>b3 wg trivial M
     have SD:=λM=>b3 aP trivial M
     have SE:=λM=>b3 T trivial M
     have t1:List.take (g.entries.length-c) (List.map dv g.entries)=List.map dv (g.entries.take<|g.entries.length-c):=rI.symm;have t2:List.drop (g.entries.length-c) (List.map dv g.entries)=List.map dv (g.entries.drop<|g.entries.length-c):=uY.symm;have QY:=aKe false (g.entries.take (g.entries.length-c)) n o hs iV nX (G++[.cells 0 [.sl true ((g.entries.take (g.entries.length-c)).map dv)]]) (H.length+3) G.length iV (b3 T trivial _)<|vY _ _
     simp only[bh]at QY;refine hH ?_;refine qd QY aK ?_;rintro x H' ⟨rfl,fE,c1,K⟩;simp only[go_sem];have dd:(G++[bE.cells 0 [I.sl true ((g.entries.take (g.entries.length-c)).map dv)]]).length=G.length+1:=kk
     have jl:=Pb n o;have ey:(g.entries.take (g.entries.length-c)).length=g.entries.length-c:=by rw[eK];omega
     rw[dd,ey]at K;have br:ay H' H.length=.cells 0 [I.sl aO (g.entries.map dv),.sl bo<|g.nodes.map ba]:=by
      rw[K];exact b3 ((ho iV _).trans ((ho iV _).trans (MW _))) trivial _
     have a8:ay H' (H.length+2)=.cells 0 [.sl true [],.sl true []]:=by
      rw[K];exact b3 ((ho iV _).trans ((ho iV _).trans (b3 aR trivial _))) trivial _
     have bb:ay H' (H.length+3)=.cells 0 [.sl false ((dX n o).map ba)]:=by
      rw[K];exact b3 (b:=.cells 0 [.sl false ((dX n o).map ba)]) ((ho iV _).trans (yX (by rw[dd];omega) _)) trivial _
     have aB2:ay H' G.length=.cells 0 [.osl 17 (G.length+3) 1 0 (g.entries.length-c+1) (g.entries.length-c+1)]:=by
      rw[K];exact b3 (b:=.cells 0 [.osl 17 (G.length+3) 1 0 (g.entries.length-c+1) (g.entries.length-c+1)]) (yX (by rw[oN,dd];omega) _) trivial _
     have SI:ay H' (G.length+3)=.cells 1 (((g.entries.take (g.entries.length-c)++[(⟨o,kh n o⟩:fu)]).map dv).flatMap I.cells):=by
      rw[K];exact y3 (n:=G.length+1) (k:=2)<|by rw[oN,oN,dd]
     have FN:∃M,H'=H++M:=by
      rw[K];exact DL (mZ (mZ (DL aAQ _) iV _) iV _) _
     have aNU:H.length+3<G.length:=Mh;generalize G.length=B at br a8 bb aB2 SI aNU ⊢;clear K aW aAQ wg aP aR T MW SD SE QY dd Mh;refine bP @TN ?_;clear bn jF Cm vy he;refine cE (ι:=Nat×ab) (λx=>[(4,.ref (H.length+2) 0 0),(6,.ref (H.length+3) 0 0),(10,.ref B 0 0),(11,.func (.func 131) [] [.ref (H.length+3) 0 0,.ref B 0 0]),(83,.sl aO<|(g.entries.drop (g.entries.length-c)).map dv),(84,.int .i64 ((g.entries.drop (g.entries.length-c)).length:Int)),(85,.int .i64 x.1)])
      (λx=>x.2)
      (λx=>x.1<=(g.entries.drop (g.entries.length-c)).length/\ay x.2 (H.length+2)=.cells 0 [.sl true [],.sl true []]/\
       ay x.2 (H.length+3)=.cells 0 [.sl false ((fb (o::((g.entries.drop (g.entries.length-c)).take x.1).map fu.op) (g.entries.take<|g.entries.length-c) n).2.map ba)]/\
       ay x.2 B=.cells 0 [.osl 17 (B+3) (x.1+1) 0 (fb (o::((g.entries.drop (g.entries.length-c)).take x.1).map fu.op) (g.entries.take<|g.entries.length-c) n).1.length (fb (o::((g.entries.drop (g.entries.length-c)).take x.1).map fu.op) (g.entries.take<|g.entries.length-c) n).1.length]/\
       ay x.2 (B+3)=.cells (x.1+1) (((fb (o::((g.entries.drop (g.entries.length-c)).take x.1).map fu.op) (g.entries.take<|g.entries.length-c) n).1.map dv).flatMap I.cells)/\∃M,x.2=H++M) (λx=>(g.entries.drop (g.entries.length-c)).length-x.1) (0,H')
      ⟨bW _,a8,by simpa[fb]using bb,by simpa[fb,ey]using aB2,by simpa[fb]using SI,FN⟩ ?_ rfl ?_
     ·simp[go_sem]
     ·rintro⟨m,X⟩ ⟨Ie,s2,V,Z,O,SV⟩;simp only at Ie s2 V Z O SV ⊢;have pG:=VF (o::((g.entries.drop (g.entries.length-c)).take m).map fu.op) (g.entries.take<|g.entries.length-c) n;have aXD:(g.entries.drop (g.entries.length-c)).length<=g.entries.length:=by rw[fT];omega
      have Fb:((o::((g.entries.drop (g.entries.length-c)).take m).map fu.op)).length=m+1:=by simp;rw[fT]at Ie;omega
      rw[Fb,ey]at pG;by_cases J:m<(g.entries.drop (g.entries.length-c)).length
      ·have ad:=di dv J;have pD:(g.entries.drop (g.entries.length-c))[m]∈g.entries:=sA<|ga J;have ql:=vE _ pD;have mu:=Vo (o::((g.entries.drop (g.entries.length-c)).take m).map fu.op) (g.entries.drop<|g.entries.length-c)[m].op (g.entries.take<|g.entries.length-c) n;have h8:(o::((g.entries.drop (g.entries.length-c)).take m).map fu.op)++[(g.entries.drop (g.entries.length-c))[m].op]=o::((g.entries.drop (g.entries.length-c)).take (m+1)).map fu.op:=by
        rw[fj J,nQ];rfl
       rw[h8]at mu;generalize jh:fb (o::((g.entries.drop (g.entries.length-c)).take m).map fu.op) (g.entries.take<|g.entries.length-c) n=R at V Z O pG mu;have cS:H.length+3<X.length:=dk V trivial;have bX:B<X.length:=dk Z trivial;have bP:B+3<X.length:=dk O trivial;have aCb:=λM=>b3 V trivial M
       have aCc:=λM=>b3 Z trivial M
       have aAc:=λE=>aKf false R.1 R.2 (g.entries.drop<|g.entries.length-c)[m].op ql iV iV (X++[E]) (H.length+3) B (B+3) (m+1) iV iV iV iV (aCb _) (aCc _) (b3 O trivial _)
       simp only[bh]at aAc;have Ru:decide ((m:Int)<((g.entries.drop (g.entries.length-c)).length:Int))=true:=cK;repeat' first|((first|refine mx [7] Fk ?_|refine ae ?_);simp only[go_sem,ad,dv,aCb,aCc,Ru])|refine ao ?_|fail
       refine qd (aAc _) aK ?_;rintro x Br ⟨rfl,d0,d1,HL⟩;simp only[go_sem];refine aW ?_;have c8:(X++[bE.cells 0 (dv (g.entries.drop<|g.entries.length-c)[m]).cells]).length=X.length+1:=kk
       refine⟨(m+1,Br),⟨J,?_,?_,?_,?_,?_⟩,by simp only;omega,bU _<|dA J iV,rfl⟩
       ·simp only;rw[HL];exact b3 ((ho iV _).trans ((ho iV _).trans ((ho iV _).trans (b3 s2 trivial _)))) trivial _
       ·simp only;rw[HL,mu];refine b3 (b:=.cells 0 [.sl false ((dX R.2 (g.entries.drop<|g.entries.length-c)[m].op).map ba)]) ((ho iV _).trans ((ho iV _).trans (yX ?_ _))) trivial _
        rw[bF];omega
       ·simp only;rw[HL,mu];have aa:=yX (H:=ar (ar (X++[bE.cells 0 (dv (g.entries.drop (g.entries.length-c))[m]).cells]) (H.length+3) (.cells 0 [.sl false ((dX R.2 (g.entries.drop (g.entries.length-c))[m].op).map ba)])) (B+3) (.cells (m+1+1) (((R.1++[(⟨(g.entries.drop (g.entries.length-c))[m].op,kh R.2 (g.entries.drop (g.entries.length-c))[m].op⟩:fu)]).map dv).flatMap I.cells))) (i:=B) (by rw[oN,oN,c8];omega)<|.cells 0 [.osl 17 (B+3) (m+1+1) 0 (R.1.length+1) (R.1.length+1)]
        refine(b3 aa trivial _).trans ?_;rw[bF];rfl
       ·simp only;rw[HL,mu];refine b3 (b:=.cells (m+1+1)<|((R.1++[(⟨(g.entries.drop (g.entries.length-c))[m].op,kh R.2 (g.entries.drop (g.entries.length-c))[m].op⟩:fu)]).map dv).flatMap I.cells) ((ho iV _).trans (yX ?_ _)) trivial _
        rw[oN,bF];omega
       ·simp only;rw[HL];exact DL (mZ (mZ (mZ (DL SV _) iV _) iV _) iV _) _
      ·have aPc:m=(g.entries.drop (g.entries.length-c)).length:=iV
       subst aPc;rw[eG]at V Z O pG;have Ru:decide (((g.entries.drop (g.entries.length-c)).length:Int)<((g.entries.drop (g.entries.length-c)).length:Int))=false:=kk
       obtain⟨M,nx⟩:=SV;have aND:H.length+2<X.length:=dk s2 trivial;have aYj:=O;generalize Am:(fb (o::(g.entries.drop (g.entries.length-c)).map fu.op) (g.entries.take<|g.entries.length-c) n)=R at V Z O pG ⊢;have aCd:∀b,ay (ar X (H.length+2) b) (H.length+2)=b:=λb=>yX aND b
       repeat' first|((first|refine mx [7] Fk ?_|refine ae ?_);simp only[go_sem,s2,V,Z,Ru,aCd])|refine ao ?_|fail
       obtain⟨M2,QP⟩:=mZ ⟨M,nx⟩ (i:=H.length+2) iV<|.cells 0 [.osl 17 (B+3) ((g.entries.drop (g.entries.length-c)).length+1) 0 R.1.length R.1.length,.sl false (R.2.map ba)]
       refine⟨M2,_,QP,?_,rfl⟩;refine .aQ _ _ rfl<|Nc (.agg _ _ rfl (Nc ?_ (Nc (.cl _ (b6.cl nb _)) VI))) (Nc (.cl _ (.int _ _)) VI)
       exact q3 (es:=R.1.map dv) (rest:=[]) iV ((ho iV _).trans O) (cA _).symm (by rw[cv]) (Oe _)<|Kh (λ_=>nb) _
namespace Go.Srt
section
variable {α:Type} (lt:α->α->Bool)
structure SWO:Prop where
 aX3:∀a,lt a a=false
 aYb:∀a b c,lt a b=false->lt b c=false->lt a c=false
 aWt:∀a b,lt a b=true->lt b a=false
def eqv(k x:α):Bool:= !lt k x&& !lt x k
def J9(xs ys:List α):Prop:=ys.length=xs.length/\∀k,ys.filter (eqv lt k)=xs.filter (eqv lt k)
variable {lt}
theorem J9.trans{a b c:List α}(h:J9 lt a b)(k:J9 lt b c):J9 lt a c:=⟨k.1.trans h.1,λx=>(k.2 x).trans<|h.2 x⟩
end
end Go.Srt
section
def lA(D:List aX):List I:=(D.map bh).flatMap I.cells
where
 aYf (l:List aX):∀e∈l.map bh,b6 e:=λe he=>by
  obtain⟨x,_,rfl⟩:=bJ.1 he;exact nb
theorem Lw{b:bE}(U:ep n b):∀(j:Nat) (c:bE),(ar H i b)[j]?=some c->H[j]?=some c\/ep n c:=by
 intro j c J;by_cases e:i=j
 ·subst e;unfold ar at J;by_cases hl:i<H.length
  ·rw[rH hl]at J;cases J;exact .inr U
  ·rw[tA (by rw[kB];omega)]at J;cases J
 ·unfold ar at J;rw[gC e]at J;exact .inl J
theorem aGm{m:Int}(h:(n:Int)=m)(af:n<=9223372036854775807):IntKind.i64.wrap m=(n:Int):=by subst h;exact bI
open Go.Srt
end
def jU(b:UInt8):List UInt8->List (List UInt8)
 |[]=>[[]]
 |c::l=>match jU b l with
  |[]=>[[]]
  |h::t=>if c=b then[]::h::t else(c::h)::t
theorem NQ(b:UInt8)(l:List UInt8):jU b l≠[]:=by
 cases l with
 |nil=>simp[jU]
 |cons c l=>rw[jU];split;simp;split<;>simp
theorem Us(h:Lib.indexByte l b<0):jU b l=[l]/\Lib.countByte l b=0:=by
 induction l with
 |nil=>exact⟨rfl,rfl⟩
 |cons c l J=>
  rw[Lib.indexByte]at h;split at h
  ·omega
  ·rename_i h1;have h2:Lib.indexByte l b<0:=by
    have:=Lib.indexByte_ge l b;split at h
    ·rename_i h3;have:Lib.indexByte l b= -1:=by simpa using h3
     omega
    ·omega
   obtain⟨av,al⟩:=J h2;have h3:¬c=b:=by simpa using h1
   refine⟨by rw[jU,av];simp[h3],?_⟩
   unfold Lib.countByte at al ⊢;rw[List.count_cons,al];simp[h3]
theorem Ut(h:Lib.indexByte l b=k):k<l.length/\jU b l=l.take k::jU b (l.drop<|k+1)/\Lib.countByte l b=Lib.countByte (l.drop<|k+1) b+1:=by
 induction l generalizing k with
 |nil=>rw[Lib.indexByte]at h;omega
 |cons c l J=>
  rw[Lib.indexByte]at h;split at h
  ·rename_i h1;have h1:c=b:=by simpa using h1
   have hk:k=0:=iV
   subst hk;subst h1;refine⟨kk,?_,?_⟩
   ·rw[jU];cases hs:jU c l with
    |nil=>exact absurd hs<|NQ c l
    |cons x t=>simp[hs]
   ·unfold Lib.countByte;simp
  ·rename_i h1;have h3:¬c=b:=by simpa using h1
   split at h
   ·omega
   ·obtain⟨j,rfl⟩:∃j,k=j+1:=⟨k-1,by
     rename_i h4;have:=Lib.indexByte_ge l b;have K:¬Lib.indexByte l b= -1:=by simpa using h4
     omega⟩
    obtain⟨U,a2,a3⟩:=J (k:=j) iV
    refine⟨by simpa using U,?_,?_⟩
    ·rw[jU,a2];simp[h3]
    ·unfold Lib.countByte at a3 ⊢;rw[List.count_cons,a3];simp[h3]
theorem aEo(h:Lib.countByte l b=0):jU b l=[l]:=by
 rcases Int.lt_or_le (Lib.indexByte l b) 0 with h1|h1
 ·exact(Us h1).1
 ·have:=(Ut (b:=b) (l:=l) (k:=(Lib.indexByte l b).toNat) iV).2.2
  omega
theorem aFq(h:0<Lib.countByte l b):∃k:Nat,Lib.indexByte l b=k:=by
 rcases Int.lt_or_le (Lib.indexByte l b) 0 with h1|h1
 ·have:=(Us h1).2;omega
 ·exact⟨(Lib.indexByte l b).toNat,iV⟩
theorem Uu(A B:List I)(y x:I)(h:A.length=n):dq (A++y::B) (n * 1) [x]=A++x::B:=by
 subst h;rw[me];simp[dq]
theorem aGn(s:List UInt8)(b:UInt8)(hs:s.length<=1048576)(H:ab):aM prog 242 [.str s,.str [b],.int .i64 0,.int .i64<|-1] H (.sl false<|(jU b s).map I.str):=by
 refine aZ func242 ?_;have T:Lib.countByte s b<=s.length:=List.count_le_length;have V:=aGb s b;generalize hm:Lib.countByte s b=m at *;have cP:IntKind.i64.wrap ((m:Int)+1)=((m+1:Nat):Int):=by rw[bI];rfl
 have dE:IntKind.i64.wrap ((s.length:Int)+1)=((s.length+1:Nat):Int):=by rw[bI];rfl
 have fX:min ((m+1:Nat):Int) ((s.length+1:Nat):Int)=((m+1:Nat):Int):=iV
 have gx:IntKind.i64.wrap (((m+1:Nat):Int)-1)=(m:Int):=by rw[bI];omega
 have jM:(((m+1:Nat):Int)).toNat=m+1:=e5 _;have cY:List.flatMap I.cells (List.replicate (m+1)<|I.str [])=List.replicate (m+1) (I.str []):=by
  rw[List.flatMap_replicate];simp[I.cells]
 have Z:∀l:List (List UInt8),(l.map I.str).flatMap I.cells=l.map I.str:=λl=>by
  rw[Gf];induction l with|nil=>rfl|cons x l z=>rw[nj,dz,z];rfl
 refine hH ?_;refine cE (ι:=Nat×List (List UInt8)×List UInt8) (λx=>[(0,.str x.2.2),(1,.str [b]),(2,.int .i64 0),(3,.int .i64 m),(9,.osl 1 H.length 1 0 (m+1)<|m+1),(10,.int .i64 x.1)])
  (λx=>H++[.cells 1 (x.2.1.map I.str++List.replicate (m+1-x.1) (.str []))])
  (λx=>x.1<=m/\x.2.1.length=x.1/\jU b s=x.2.1++jU b x.2.2/\Lib.countByte x.2.2 b+x.1=m/\x.2.2.length<=s.length) (λx=>m-x.1) (0,[],s) ⟨bW _,rfl,rfl,hm,bd _⟩ ?_ kk ?_
 ·simp[go_sem]
 ·rintro⟨i,pre,r⟩ ⟨hi,hl,J,EN,pG⟩;simp only at hi hl J EN pG ⊢;by_cases K:i<m
  ·obtain⟨k,hk⟩:=aFq (b:=b) (l:=r) iV
   obtain⟨k1,k2,k3⟩:=Ut hk;have qi:=aGc r b;rw[hk]at qi;have U:decide ((i:Int)<(m:Int))=true:=cK;have pA:decide ((k:Int)<0)=false:=cQ;have fY:IntKind.i64.wrap ((k:Int)+0)=(k:Int):=by rw[bI];omega
   have dW:IntKind.i64.wrap ((k:Int)+1)=((k+1:Nat):Int):=by rw[bI];rfl
   repeat' first|(refine ae ?_;simp only[go_sem,U,pA,fY,dW])|refine bt ?_|(refine bB ?_ ?_<;>intro h<;>try exact bA h)|fail
   have gy:(IntKind.i64.wrap ((k:Int)+((1:Nat):Int))).toNat=k+1:=by rw[bI];omega
   refine⟨(i+1,pre++[r.take k],r.drop<|k+1),⟨K,by simp[hl],by rw[J,k2];simp,by simp only;omega,by simp only[fT];omega⟩,by simp only;omega,⟨by rw[gy],bU _<|dA K iV⟩,?_⟩
   have av:m+1-i=(m-i)+1:=iV
   have al:m+1-(i+1)=m-i:=iV
   simp only[av,al,zo];rw[Uu _ _ _ _ (by rw[cv];exact hl)]
   simp
  ·have eV:i=m:=iV
   subst eV;have U:decide ((i:Int)<(i:Int))=false:=kk
   repeat' first|(refine ae ?_;simp only[go_sem,U])|refine bt ?_|(refine bB ?_ ?_<;>intro h<;>try exact bA h)|fail
   have av:i+1-i=1:=iV
   have aY:(IntKind.i64.wrap ((i:Int)+1)).toNat=i+1:=by rw[bI];omega
   have O:jU b s=pre++[r]:=by rw[J,aEo (b:=b) (l:=r) iV]
   simp only[av,aY,zo,List.replicate_zero];rw[Uu _ _ _ _ (by rw[cv];exact hl)]
   have b9:pre.map I.str++[I.str r]=(jU b s).map I.str:=by rw[O];simp
   rw[b9];exact uH (cs:=(jU b s).map I.str) (es:=(jU b s).map I.str) (rest:=[]) iV nb (by rw[Z,cA]) (by rw[cv,O];simp[hl]) (λe he=>by obtain⟨x,_,rfl⟩:=bJ.1 he;rfl) (λe he=>by obtain⟨x,_,rfl⟩:=bJ.1 he;exact nb) rfl
theorem aFr:∀x∈jU b l,x.length<=l.length:=by
 induction l with
 |nil=>intro x J;simp[jU]at J;simp[J]
 |cons c l U=>
  intro x J;rw[jU]at J;cases hs:jU b l with
  |nil=>exact absurd hs<|NQ b l
  |cons y t=>
   rw[hs]at U;simp only[hs]at J;rw[cg];by_cases h:c=b
   ·rw[aA h]at J;rcases cU.1 J with q|q
    ·rw[q];simp
    ·have:=U x q;omega
   ·rw[aj h]at J;rcases cU.1 J with q|q
    ·have:=U y kk;rw[q,cg];omega
    ·have:=U x (by simp[q]);omega
def yq(l:List ag):Bool:=decide ((l.length:Int)<=16)&&l.all sn
def gB(p:ag):Option (List ag):=
 if p=[47]then some []else match p with
 |[]=>none
 |c::l=>if c=47 then(if yq (jU 47 l)=true then some (jU 47 l)else none)else none
theorem aGo(s:List UInt8)(b:UInt8)(hs:s.length<=1048576)(H:ab):aM prog 217 [.str s,.str [b]] H (.sl false<|(jU b s).map I.str):=by
 refine aZ func217 ?_;have J:=aGn s b hs;repeat' first|(refine ae ?_;simp only[go_sem])|refine bt ?_|(refine bB ?_ ?_<;>intro h<;>try exact bA h)|fail
 exact bD<|.refl _
theorem aLo(f:Bool)(l:List ag)(hl:∀x∈l,x.length<=1048576)(H:ab):aM prog 218 [.sl f (l.map I.str)] H (.bool<|yq l):=by
 refine aZ func218 ?_;by_cases T:(l.length:Int)<=16
 ·have hd:decide ((16:Int)<(l.length:Int))=false:=cQ;have K:yq l=l.all sn:=by rw[yq,cD T,sH]
  rw[K];refine hH ?_;refine cE (ι:=Nat) (λi=>[(8,.sl f<|l.map I.str),(9,.int .i64 l.length),(10,.int .i64 i)]) (λ_=>H) (λi=>i<=l.length/\∀x∈l.take i,sn x=true) (λi=>l.length-i) 0 ⟨bW _,kk⟩ ?_ rfl ?_
  ·simp[go_sem]
  ·rintro i ⟨hi,V⟩;by_cases U:i<l.length
   ·have ad:=di I.str U;have Z:decide ((i:Int)<(l.length:Int))=true:=cK;have af:=Nx l[i] (by have:=hl _<|ga U;omega)
    cases hk:sn l[i]with
    |false=>
     rw[hk]at af;have O:l.all sn=false:=by rw[List.all_eq_false];exact⟨l[i],ga U,by rw[hk];decide⟩
     rw[O];refine hH ?_;exact bD<|.refl _
    |true=>
     rw[hk]at af;refine hH ?_;refine⟨i+1,⟨U,λx J=>?_⟩,iV,bU _<|dA U iV⟩
     rw[fj U,e4,dF]at J;rcases J with q|q
     ·exact V x q
     ·rw[q];exact hk
   ·have z:i=l.length:=iV
    subst z;have Z:decide ((l.length:Int)<(l.length:Int))=false:=kk
    have O:l.all sn=true:=gm.2<|by rwa[eG]at V
    rw[O];refine hH ?_;exact bD<|.refl _
 ·have hd:decide ((16:Int)<(l.length:Int))=true:=cK;have K:yq l=false:=by rw[yq,bN T,Bool.false_and]
  rw[K];refine hH ?_;exact bD<|.refl _
def ly(p:ag):I:=match gB p with
 |none=>.aQ [.sl true [],.int .i64 10]
 |some l=>.aQ [.sl (decide<|p=[47]) (l.map I.str),.int .i64 0]
theorem Gj(p:ag)(hs:p.length<=1048576)(H:ab):aM prog 185 [.str p] H (ly p):=by
 refine aZ func185 ?_;have U:=aKa p 47;by_cases h1:p=[47]
 ·have hd:decide (p=[47])=true:=cD h1;simp only[ly,gB,aA h1,hd];refine hH ?_;exact bD<|.refl _
 ·have hd:decide (p=[47])=false:=bN h1;simp only[ly,gB,aj h1,hd];cases p with
  |nil=>
   simp only[wV]at U;refine hH ?_;exact bD<|.refl _
  |cons c l=>
   rw[cg]at hs;by_cases h2:c=47
   ·simp only[wV,aA h2]at U ⊢;have T:=aGo l 47 iV
    have K:=aLo false (jU 47 l) (λx J=>by have:=aFr x J;omega)
    cases O:yq (jU 47 l)with
    |false=>
     rw[O]at K;repeat' first|(refine ae ?_;simp only[go_sem,hd])|refine bt ?_|(refine bB ?_ ?_<;>intro h<;>try exact bA h)|fail
     exact bD<|.refl _
    |true=>
     rw[O]at K;repeat' first|(refine ae ?_;simp only[go_sem,hd])|refine bt ?_|(refine bB ?_ ?_<;>intro h<;>try exact bA h)|fail
     exact bD<|.refl _
   ·simp only[wV,aj h2]at U ⊢;refine hH ?_;exact bD<|.refl _
structure b8 where
 kind:Int
 path:ag
 to:ag
 data:ag
 n:Int
deriving DecidableEq,Inhabited
structure eb where
 kind:Int
 path:ag
deriving DecidableEq,Inhabited
structure nn where
 err:Int
 data:ag
 names:List ag
 n:Int
 events:List eb
deriving DecidableEq,Inhabited
structure bz where
 call:b8
 has:List Int
 at_:Int
 done:Bool
 ended:Bool
 upto:Int
 mm:Int
 mark:Int
 end_:Int
 ec:nn
deriving DecidableEq,Inhabited
structure eZ where
 kind:Int
 lock:Int
deriving DecidableEq,Inhabited
def BT(s:ag):I:=.str s
def c4(c:b8):I:=.agg [.int .i64 c.kind,.str c.path,.str c.to,.str c.data,.int .i64 c.n]
def c9(e:eb):I:=.agg [.int .i64 e.kind,.str e.path]
def rC(t:eZ):I:=.agg [.int .i64 t.kind,.int .i64 t.lock]
def kz(h n e:I)(t:bz):I:=.agg [.int .i64 t.call.kind,.str t.call.path,.str t.call.to,.str t.call.data,.int .i64 t.call.n,h,.int .i64 t.at_,.bool t.done,.bool t.ended,.int .i64 t.upto,.int .i64 t.mm,.int .i64 t.mark,.int .i64 t.end_,
 .int .i64 t.ec.err,.str t.ec.data,n,.int .i64 t.ec.n,e]
def hy(f1 f2 f3:Bool)(t:bz):I:=kz (.sl f1<|t.has.map bq) (.sl f2<|t.ec.names.map I.str) (.sl f3<|t.ec.events.map c9) t
@[go_sem] theorem aV9(x:eb):b6 (c9 x)=True:=by simp only[c9,go_sem]
def oO:b8:=⟨0,[],[],[],0⟩
def du:nn:=⟨0,[],[],0,[]⟩
def pb(c:b8):bz:=⟨c,[],0,false,false,0,0,0,0,du⟩
def hA(c:b8):Bool:=decide (c.kind=1)||decide (c.kind=2)||decide (c.kind=3)||decide (c.kind=10)||(decide (c.kind=4)||decide (c.kind=7))&&decide (c.n=0)
def fQ(c:b8):Bool:=decide (c.kind=5)||decide (c.kind=6)||decide (c.kind=13)
def hB(c:b8):List ag:=match gB c.path with
 |none=>[]
 |some l=>if c.kind=7\/c.kind=10 then l else l.dropLast
theorem IP{l:List ag}(h:gB p=some l):l.length<=16:=by
 unfold gB at h;split at h
 ·cases h;simp
 ·split at h
  ·cases h
  ·split at h
   ·split at h
    ·rename_i J;cases h;simp only[yq,cV,gU]at J;omega
    ·cases h
   ·cases h
def gp(l:List aE)(p:ag):Option Int:=match gB p with
 |some (x::xs)=>if(fp l (x::xs).dropLast).2=0/\dm (fp l (x::xs).dropLast).1=true then some (fp l (x::xs).dropLast).1 else none
 |_=>none
def jJ(bk:List Int)(o:Option Int):List Int:=match o with
 |some d=>if bk.contains d=true then bk else bk++[d]
 |none=>bk
def nu(c:b8):List ag:=if c.kind=5 then[c.path,c.to]else if c.kind=6 then[c.path]else[]
def ze(l:List aE)(c:b8):List Int:=(nu c).foldl (λbk p=>jJ bk<|gp l p) []
def oR(l:List aE)(a b:Int):Bool:=(og l b).contains a
def n3(l:List aE)(bk:List Int):List Int:=match bk with
 |[a,b]=>if(!oR l a b&&(oR l b a||decide (b<a)))=true then[b,a]else[a,b]
 |bk=>bk
def iq(l:List aE)(c:b8):List Int:=1::n3 l (ze l c)
def nP(has:List Int):List Int->eZ
 |[]=>⟨3,0⟩
 |k::bM=>if has.contains k=true then nP has bM else⟨1,k⟩
def uW(l:List aE)(names:List ag)(t:bz):eZ:=match t.has with
 |[]=>⟨1,0⟩
 |_::_::_=>⟨2,t.has.headD 0⟩
 |[here]=>
  match(if 0<=t.at_ then names[t.at_.toNat]? else none).bind (fx l here)with
  |some n=>if dm n.id=true then⟨1,n.id⟩else if(fp l names).2=0/\dm (fp l names).1=true/\(fp l names).1≠here then⟨2,here⟩else⟨3,0⟩
  |none=>if(fp l names).2=0/\dm (fp l names).1=true/\(fp l names).1≠here then⟨2,here⟩else⟨3,0⟩
def ev(l:List aE)(t:bz):eZ:=
 if t.ended=true then⟨0,0⟩else if t.done=true then(match t.has with|k::_=>⟨2,k⟩|[]=>if t.call.kind=12 then⟨4,0⟩else⟨5,0⟩)
 else if fQ t.call=true then nP t.has (iq l t.call)else if hA t.call=true then uW l (hB t.call) t else⟨3,0⟩
def dt(t:bz)(u:eZ):bz:=
 if u.kind=1 then{t with at_:=if t.has.length=1/\hA t.call=true then IntKind.i64.wrap (t.at_+1)else t.at_,has:=t.has++[u.lock]}
 else if u.kind=2 then{t with has:=t.has.filter λk=> !decide (k=u.lock),at_:=if t.has.filter (λk=> !decide (k=u.lock))=[]/\t.done=false/\hA t.call=true then 0 else t.at_}
 else if u.kind=3 then{t with done:=true}else if u.kind=5 then{t with ended:=true}else t
def pR(t:bz):bz:={t with has:=[],at_:=0}
theorem Uv{k:Int}(h:has.contains k=true):nP has (k::bM)=nP has bM:=by rw[nP,aA h]
theorem Og{k:Int}(h:has.contains k=false):nP has (k::bM)=⟨1,k⟩:=by rw[nP,aj (by rw[h];intro q;cases q)]
theorem Oh(c:b8):(hB c).length<=16:=by
 unfold hB;split
 ·simp
 ·rename_i l h;have:=IP h;split
  ·exact this
  ·rw[List.length_dropLast];omega
theorem aDs(af:gB p=some []):p=[47]:=by
 by_cases ad:p=[47]
 ·exact ad
 ·unfold gB at af;rw[aj ad]at af;split at af
  ·cases af
  ·split at af
   ·split at af
    ·exact absurd (qP af)<|NQ _ _
    ·cases af
   ·cases af
theorem aGp(bk:List Int)(o:Option Int):(jJ bk o).length<=bk.length+1:=by
 unfold jJ;split
 ·split
  ·omega
  ·simp
 ·omega
theorem aEp(l:List aE)(c:b8):(ze l c).length<=2:=by
 have h:∀(ps:List ag) (bk:List Int),(ps.foldl (λbk p=>jJ bk<|gp l p) bk).length<=bk.length+ps.length:=by
  intro ps;induction ps with
  |nil=>intro bk;simp
  |cons p ps J=>intro bk;rw[mG];have:=J<|jJ bk (gp l p);have:=aGp bk<|gp l p;simp only[cg];omega
 have h1:=h (nu c) [];have h2:(nu c).length<=2:=by rw[nu];split<;>(try split)<;>simp
 rw[ze];simp only[eg]at h1;omega
theorem aEq(l:List aE)(bk:List Int):(n3 l bk).length=bk.length:=by
 unfold n3;split
 ·split<;>rfl
 ·rfl
theorem aEr(l:List aE)(c:b8):(iq l c).length<=3:=by
 have:=aEp l c;rw[iq,cg,aEq];omega
end Go.Proofs.YtnmamncmpklliaaGreatDoor
