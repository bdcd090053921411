/- What the functions of this seat answer (11 of 40). No condition. -/
import Derived.Test.YthafnbmdmfoobaaGreatDoorWorkAJ
import Derived.Lib.MapLaws
import Derived.Sort.AssemblyPlain
set_option linter.unusedSimpArgs false
set_option linter.unusedVariables false
set_option linter.unusedSectionVars false
set_option maxRecDepth 100000
set_option maxHeartbeats 16000000
namespace Go.Proofs.YthafnbmdmfoobaaGreatDoor
section
theorem lR(H:ab)(i:Nat)(b:bu):(ai H i b).length=H.length:=by simp[ai]
theorem hI{H:ab}{i j:Nat}(h:i≠j)(b:bu):ao (ai H i b) j=ao H j:=by
 simp only[ao,ai,eP];rw[gS h]
theorem wi{H:ab}{i:Nat}(h:i<H.length)(b:bu):ao (ai H i b) i=b:=by
 simp only[ao,ai,eP];rw[oI h];rfl
theorem w3{G L:ab}{n k:Nat}(h:G.length=n):ao (G++L) (n+k)=L.getD k .gone:=by subst h;exact Dl _ _ _
theorem rB{G L:ab}{n:Nat}(h:G.length=n):ao (G++L) n=L.getD 0 .gone:=by subst h;exact rf _ _
theorem G9{G L:ab}{n k:Nat}(h:G.length=n)(b:bu):ai (G++L) (n+k) b=G++L.set k b:=by subst h;exact Ly _ _ _ _
theorem Lu{G L:ab}{n:Nat}(h:G.length=n)(b:bu):ai (G++L) n b=G++L.set 0 b:=by subst h;exact Rd _ _ _
theorem R0(es:List eH)(e:eH):((es++[e]).map de).flatMap I.cells=(es.map de).flatMap I.cells++(de e).cells:=by
 rw[n0,List.flatMap_append];simp
theorem aFF(b:Bool)(es:List eH)(n:List aB)(o:bf)(hs:pz o)(hl:n.length<=1000000000)(he:es.length<=1000000)(H:ab)(i j:Nat)(gp:i≠j)
  (hi:ao H i=.cells 0 [.sl b (n.map aW)]) (aw:ao H j=.cells 0 [.sl true (es.map de)]):
  c5 Tryz.prog 211 [bY o,.ref i 0 0,.ref j 0 0] H (fun x H'=>x=.a0 []∧
   ∃eT aV,H'=ai (ai H i (.cells 0 [.sl false ((ed n o).map aW)])) j (.cells 0 [.osl 17 (H.length+2) 1 0 (es.length+1) (es.length+1)])++([eT,aV,.cells 1 (((es++[(⟨o,j5 n o⟩:eH)]).map de).flatMap I.cells)]:ab)):=by
 refine uM Tryz.func211 ?_;have j0:=UN b n o hs hl;have hV:=fun L=>bQ hi trivial L
 have Oh:i<H.length:=c8 hi trivial;have Ol:j<H.length:=c8 aw trivial;have f1:=fun L b=>gW Oh L b
 have f2:=fun b=>lR H i b
 have f3:∀L b k,ao (ai H i b++L) (H.length+k)=L.getD k .gone:=fun L b k=>w3 (lR H i b)
 have f30:∀L b,ao (ai H i b++L) H.length=L.getD 0 .gone:=fun L b=>rB (lR H i b)
 have f4:∀L b k cN,ai (ai H i b++L) (H.length+k) cN=ai H i b++L.set k cN:=fun L b k cN=>G9 (lR H i b) cN
 have f5:∀L b,ao (ai H i b++L) j=.cells 0 [.sl true (es.map de)]:=fun L b=>bQ ((hI gp b).trans aw) trivial L
 have f6:∀L b cN,ai (ai H i b++L) j cN=ai (ai H i b) j cN++L:=fun L b cN=>gW (by rw[lR];exact Ol) L cN
 have Nt:=R0 es ⟨o,j5 n o⟩;have eM:=JS es;simp only[bY,sY]at j0 ⊢;repeat' first|(refine ad ?_;simp only[go_sem,hi,aw,hV,f1,f2,f3,f30,f4,f5,f6,eM])|refine bx ?_|(refine bD ?_ ?_<;>intro h<;>try exact bB h)|fail
 rw[Nt];exact⟨⟨.inr trivial,fun e he=>by rw[he];rfl,by omega⟩,_,_,rfl⟩
theorem aFG(b:Bool)(es:List eH)(n:List aB)(o:bf)(hs:pz o)(hl:n.length<=1000000000)(he:es.length<=1000000)(H:ab)(i j k v:Nat)(gp:i≠j)(aJx:i≠k)(z4:j≠k)(aL:v≠0)
  (hi:ao H i=.cells 0 [.sl b (n.map aW)]) (aw:ao H j=.cells 0 [.osl 17 k v 0 es.length es.length]) (hk:ao H k=.cells v ((es.map de).flatMap I.cells)):
  c5 Tryz.prog 211 [bY o,.ref i 0 0,.ref j 0 0] H (fun x H'=>x=.a0 []∧
   ∃eT aV,H'=ai (ai (ai H i (.cells 0 [.sl false ((ed n o).map aW)])) k (.cells (v+1) (((es++[(⟨o,j5 n o⟩:eH)]).map de).flatMap I.cells))) j (.cells 0 [.osl 17 k (v+1) 0 (es.length+1) (es.length+1)])++([eT,aV]:ab)):=by
 refine uM Tryz.func211 ?_;have j0:=UN b n o hs hl;have hV:=fun L=>bQ hi trivial L
 have Oh:i<H.length:=c8 hi trivial;have Ol:j<H.length:=c8 aw trivial;have z5:k<H.length:=c8 hk trivial;have f1:=fun L b=>gW Oh L b
 have f2:=fun b=>lR H i b
 have f3:∀L b k,ao (ai H i b++L) (H.length+k)=L.getD k .gone:=fun L b k=>w3 (lR H i b)
 have f30:∀L b,ao (ai H i b++L) H.length=L.getD 0 .gone:=fun L b=>rB (lR H i b)
 have f4:∀L b k cN,ai (ai H i b++L) (H.length+k) cN=ai H i b++L.set k cN:=fun L b k cN=>G9 (lR H i b) cN
 have f5:∀L b,ao (ai H i b++L) j=.cells 0 [.osl 17 k v 0 es.length es.length]:=fun L b=>bQ ((hI gp b).trans aw) trivial L
 have f6:∀L b,ao (ai H i b++L) k=.cells v ((es.map de).flatMap I.cells):=fun L b=>bQ ((hI aJx b).trans hk) trivial L
 have f7:∀L b cN,ai (ai H i b++L) k cN=ai (ai H i b) k cN++L:=fun L b cN=>gW (by rw[lR];exact z5) L cN
 have f8:∀L b cN zz,ai (ai (ai H i b) k cN++L) j zz=ai (ai (ai H i b) k cN) j zz++L:=fun L b cN zz=>gW (by rw[lR,lR];exact Ol) L zz
 have f9:∀L b cN,ao (ai (ai H i b) k cN++L) j=.cells 0 [.osl 17 k v 0 es.length es.length]:=fun L b cN=>bQ ((hI z4.symm cN).trans ((hI gp b).trans aw)) trivial L
 have Nt:=R0 es ⟨o,j5 n o⟩;have eM:=JS es;have eu:(List.flatMap I.cells (es.map de)).length=es.length * 17:=(Gv (JT es)).trans (by rw[cP])
 simp only[bY,sY]at j0 ⊢;repeat' first|(refine ad ?_;simp only[go_sem,hi,aw,hV,f1,f2,f3,f30,f4,f5,f6,f7,f8,f9,eM,eu,aL])|refine bx ?_|(refine bD ?_ ?_<;>intro h<;>try exact bB h)|fail
 rw[Nt];exact⟨⟨fun e he=>by rw[he];rfl,by omega⟩,_,_,rfl⟩
end
section
variable {P:Program}
def zu{ι:Type}(F:ι->a5)(hH:ι->ab)(pre:ι->Prop)(Q:dU):dU
 |.normal,α,H=>∃y,pre y∧xR (F y) α∧H=hH y
 |e,α,H=>Q e α H
section
variable {ι:Type} (F:ι->a5) (hH:ι->ab) (pre:ι->Prop) (Q:dU) (α:a5) (H:ab)
@[go_sem] theorem aNz:zu F hH pre Q .normal α H=∃y,pre y∧xR (F y) α∧H=hH y:=rfl
@[go_sem] theorem aPc(i:Nat):zu F hH pre Q (.exit i) α H=Q (.exit i) α H:=rfl
@[go_sem] theorem aQT:zu F hH pre Q .ret α H=Q .ret α H:=rfl
end
theorem vr{N:Nat}{x y:Code}{Q:dU}{α:a5}{H:ab}{ι:Type}(F:ι->a5)(hH:ι->ab)(pre:ι->Prop)(h1:di P N x (zu F hH pre Q) α H)(h2:∀i,pre i->di P N y Q (F i) (hH i)):di P N (.seq x y) Q α H:=by
 refine w6 (Hx h1 fun e c1 H' h=>?_)
 cases e with
 |normal=>
  obtain⟨i,ae,hs,rfl⟩:=h;exact Kw (h2 i ae) (Av hs)
 |_=>exact h
theorem jY{N id:Nat}{x y:Code}{Q:dU}{α:a5}{H:ab}{ι:Type}(F:ι->a5)(hH:ι->ab)(pre:ι->Prop)(h1:di P N x (w7 id (zu F hH pre Q)) α H)(h2:∀i,pre i->di P N y Q (F i) (hH i)):di P N x (w7 id (zh P N y Q)) α H:=by
 refine Hx h1 fun e c1 H' h=>?_
 have key:zu F hH pre Q .normal c1 H'->zh P N y Q .normal c1 H':=fun⟨i,ae,hs,bW⟩=>by subst bW;exact Kw (h2 i ae) (Av hs)
 cases e with
 |normal=>exact key h
 |exit i=>
  simp only[w7]at h ⊢;by_cases hi:i==id
  ·rw[hi,cond_true]at h ⊢;exact key h
  ·have cv:(i==id)=false:=by simpa using hi
   rw[cv,qi]at h ⊢;exact h
 |_=>exact h
end
section
def CR:List cR:=[.pure 0,.pure 0,.pure 0,.pure 0,.pure 0,.eff [true,true,true,true,true],.eff [true,true,true,false,false],.free]
attribute [go_sem] CR
def Ha(o:bf):List I:=[.int .i64 o.at_.c,.int .i64 o.at_.r,.int .i64 o.kind,.int .i64 o.node,.int .i64 o.parent,.str o.name,.str o.data]
def Nh(g:hy)(e:Int):I:=.a0 [CX g,.int .i64 e]
def aHE(l:List eH):Prop:=∀e∈l,pz e.op
theorem RL{n:Nat}{H:ab}:∀(i:Nat) (x y:I),([]:List I)[i]?=some x->([]:List I)[i]?=some y->cQ n H x y:=fun _ _ _ h=>by simp at h
theorem Ky{n:Nat}{H:ab}{a b:I}{cs bc:List I}(h:cQ n H a b)(hs:∀(i:Nat) (x y:I),cs[i]?=some x->bc[i]?=some y->cQ n H x y):∀(i:Nat) (x y:I),(a::cs)[i]?=some x->(b::bc)[i]?=some y->cQ n H x y
 |0,x,y,J,aG=>by simp at J aG;subst J;subst aG;exact h
 |i+1,x,y,J,aG=>hs i x y (by simpa using J) (by simpa using aG)
theorem T8{H M L G X:ab}(aT:H++(M++L)=G):G++X=H++(M++(L++X)):=by rw[<-aT];simp only[cr]
theorem mb{H X:ab}{i:Nat}(h:∃M,X=H++M)(hi:H.length<=i)(b:bu):∃M,ai X i b=H++M:=by
 obtain⟨M,rfl⟩:=h;obtain⟨k,rfl⟩:∃k,i=H.length+k:=⟨i-H.length,by omega⟩
 exact⟨M.set k b,Ly _ _ _ _⟩
theorem AM{H X:ab}(h:∃M,X=H++M)(L:ab):∃M,X++L=H++M:=by
 obtain⟨M,rfl⟩:=h;exact⟨M++L,cr ..⟩
theorem aFH(aV bm:Bool)(g:hy)(o:bf)(hs:pz o)(tC:aHE g.entries)(h2:g.nodes.length<=1000000)(h1:g.entries.length<=1000000)(H:ab):aY Tryz.prog 184 [p7 aV bm g,bY o] H (Nh (gA g o) (r0 g o)):=by
 have bl:=Ee o hs;have m9:=aD0 aV bm g (by omega) (by omega)
 have z0:=T6 aV bm g o.at_;refine bh Tryz.func184 ?_;have kv:=mT [(7,CR)];simp only[bY,CX,p7,xd,Nh]at bl m9 z0 ⊢;cases aN:dk o with
 |false=>
  rw[gA,aF aN,r0,aF aN];refine bW ?_;exact bo (.refl _)
 |true=>
  cases ah:pe g.entries o.at_ with
  |true=>
   rw[gA,az (by rw[aN];decide),aF ah,r0,az (by rw[aN];decide),aF ah]
   refine bW ?_;exact bo (.refl _)
  |false=>
   by_cases hm:(200:Int)<=(g.entries.length:Int)
   ·rw[gA,az (by rw[aN];decide),az (by rw[ah];decide),aF hm,r0,az (by rw[aN];decide),az (by rw[ah];decide),aF hm]
    refine bW ?_;exact bo (.refl _)
   ·rw[gA,az (by rw[aN];decide),az (by rw[ah];decide),az hm,r0,az (by rw[aN];decide),az (by rw[ah];decide),az hm]
    refine bW ?_;have zT:=fun l e u hl=>aFE false l e u hl
    simp only[bY,sY]at zT;refine Dq (H.length+3) [.sl false (g.nodes.map aW)] (v:=0) (cs:=[.sl bm (g.nodes.map aW)]) (by simp only[go_sem]) rfl (dh (.sl _ _) mF) ?_
    simp only[go_sem];refine jY (ι:=Nat×List aB×ab)
     (fun x=>[(2,.ref H.length 0 0),(3,.ref (H.length+1) 0 0),(4,.ref (H.length+2) 0 0),(6,.ref (H.length+3) 0 0),(7,.int .i64 ((g.entries.length-x.1:Nat):Int))])
     (fun x=>H++([.cells 0 [.sl aV (g.entries.map de),.sl bm (g.nodes.map aW)],.cells 0 (Ha o),.cells 0 [.sl true [],.sl true []],.cells 0 [.sl false (x.2.1.map aW)]]++x.2.2))
     (fun x=>x.1<=g.entries.length∧x.2.1.length<=g.nodes.length+x.1∧iF o.at_ g.entries.reverse g.nodes=(x.1,x.2.1)) ?_ ?_
    ·refine b5 (ι:=Nat×List aB×ab)
      (fun x=>[(2,.ref H.length 0 0),(3,.ref (H.length+1) 0 0),(4,.ref (H.length+2) 0 0),(6,.ref (H.length+3) 0 0),(7,.int .i64 ((g.entries.length-x.1:Nat):Int)),(41,.int .i64 g.entries.length),(42,.int .i64 x.1)])
      (fun x=>H++([.cells 0 [.sl aV (g.entries.map de),.sl bm (g.nodes.map aW)],.cells 0 (Ha o),.cells 0 [.sl true [],.sl true []],.cells 0 [.sl false (x.2.1.map aW)]]++x.2.2))
      (fun x=>x.1<=g.entries.length∧x.2.1.length<=g.nodes.length+x.1∧iF o.at_ g.entries.reverse g.nodes=(x.1+(iF o.at_ (g.entries.reverse.drop x.1) x.2.1).1,(iF o.at_ (g.entries.reverse.drop x.1) x.2.1).2)) (fun x=>g.entries.length-x.1) (0,g.nodes,[]) ⟨bG _,bk _,by simp⟩ ?_ (by simp[Ha]) ?_
     ·simp[go_sem]
     ·rintro⟨i,n,L⟩ ⟨hi,ag,he⟩;simp only[Ha]at hi ag he ⊢;generalize aT:H++([bu.cells 0 [I.sl aV (g.entries.map de),.sl bm (g.nodes.map aW)],.cells 0 [.int .i64 o.at_.c,.int .i64 o.at_.r,.int .i64 o.kind,.int .i64 o.node,.int .i64 o.parent,.str o.name,.str o.data],.cells 0 [.sl true [],.sl true []],.cells 0 [.sl false (n.map aW)]]++L)=G;have Jv:H.length+3<G.length:=by rw[<-aT];simp
      have lL:ao G H.length=.cells 0 [I.sl aV (g.entries.map de),.sl bm (g.nodes.map aW)]:=by rw[<-aT];simp only[go_sem]
      have aQ:ao G (H.length+1)=.cells 0 [.int .i64 o.at_.c,.int .i64 o.at_.r,.int .i64 o.kind,.int .i64 o.node,.int .i64 o.parent,.str o.name,.str o.data]:=by rw[<-aT];simp only[go_sem]
      have bF:ao G (H.length+3)=.cells 0 [.sl false (n.map aW)]:=by rw[<-aT];simp only[go_sem]
      have Ki:=fun M=>bQ lL trivial M
      have Pb:=fun M=>bQ aQ trivial M
      have Pd:=fun M=>bQ bF trivial M
      have bq:=fun M b=>gW Jv M b
      have aLz:∀b,ai G (H.length+3) b=H++([bu.cells 0 [I.sl aV (g.entries.map de),.sl bm (g.nodes.map aW)],.cells 0 [.int .i64 o.at_.c,.int .i64 o.at_.r,.int .i64 o.kind,.int .i64 o.node,.int .i64 o.parent,.str o.name,.str o.data],.cells 0 [.sl true [],.sl true []],b]++L):=fun b=>by rw[<-aT];simp only[go_sem]
      by_cases ak:i<g.entries.length
      ·have o5:g.entries.length-1-i<g.entries.length:=by omega
       have ae:=dg de o5;have ar:IntKind.i64.wrap (IntKind.i64.wrap ((g.entries.length:Int)-1)-(i:Int))=((g.entries.length-1-i:Nat):Int):=by
        rw[wrap_i64 (n:=(g.entries.length:Int)-1) (by omega) (by omega),cB];omega
       have kz:g.entries.reverse.drop i=g.entries[g.entries.length-1-i]::g.entries.reverse.drop (i+1):=by
        rw[eo (by simpa using ak)]
        congr 1;rw[List.getElem_reverse]
       rw[kz,iF]at he;repeat' first|((first|refine du (My _ _ _ _) ?_|refine ea (zT _ _ _ (by first|assumption|decide|omega|(simp_all;done)|(simp_all;omega)) _) (aA) ?_|refine ep (zT _ _ _ (by first|assumption|decide|omega|(simp_all;done)|(simp_all;omega)) _) (aA) ?_|refine er (fun _=>zT _ _ _ (by first|assumption|decide|omega|(simp_all;done)|(simp_all;omega)) _) (aA) ?_|refine mx [7] CR ?_|refine ad ?_);simp only[go_sem,ae,de,ar,lL,aQ,bF,Ki,Pb,Pd,bq])|refine bx ?_|(refine bD ?_ ?_<;>intro h<;>try exact bB h)|fail
       ·have lF:¬hf o.at_ g.entries[g.entries.length-1-i].op.at_=true:=by
         rw[vB];unfold hf;simpa using h
        rw[az lF]at he;exact⟨(i,n,L++[_]),⟨hi,ag,by rw[he];rfl⟩,rfl,T8 aT⟩
       ·have lF:hf o.at_ g.entries[g.entries.length-1-i].op.at_=true:=by unfold hf;simpa using h
        rw[aF lF]at he;have rl:=Ro n g.entries[g.entries.length-1-i].op g.entries[g.entries.length-1-i].l6;refine⟨(i+1,rJ n g.entries[g.entries.length-1-i].op g.entries[g.entries.length-1-i].l6,L++[_]),⟨ak,by simp only;omega,by rw[he];simp only[Prod.mk.injEq,and_true];omega⟩,by simp only;omega,⟨bH _ ?_,bH _ (dW ak (by omega))⟩,T8 (aLz _).symm⟩
        simp only;rw[cB];omega
      ·repeat' first|((first|refine mx [7] CR ?_|refine ad ?_);simp only[go_sem,lL,aQ,bF,ak])|refine af ?_|fail
       have Js:i=g.entries.length:=by omega
       have aJd:g.entries.reverse.drop i=[]:=List.drop_of_length_le (by simp;omega)
       rw[aJd]at he;exact⟨(i,n,L),⟨hi,ag,by rw[he];rfl⟩,rfl,by rw[<-aT];simp only[go_sem]⟩
    ·rintro⟨c,n,L⟩ ⟨al,ag,he⟩;simp only[Ha]at al ag he ⊢;rw[he];simp only;generalize aT:H++([bu.cells 0 [I.sl aV (g.entries.map de),.sl bm (g.nodes.map aW)],.cells 0 [.int .i64 o.at_.c,.int .i64 o.at_.r,.int .i64 o.kind,.int .i64 o.node,.int .i64 o.parent,.str o.name,.str o.data],.cells 0 [.sl true [],.sl true []],.cells 0 [.sl false (n.map aW)]]++L)=G;have Jv:H.length+3<G.length:=by rw[<-aT];simp
     have Wh:∃M,G=H++M:=⟨_,aT.symm⟩;have lL:ao G H.length=.cells 0 [I.sl aV (g.entries.map de),.sl bm (g.nodes.map aW)]:=by rw[<-aT];simp only[go_sem]
     have aQ:ao G (H.length+1)=.cells 0 [.int .i64 o.at_.c,.int .i64 o.at_.r,.int .i64 o.kind,.int .i64 o.node,.int .i64 o.parent,.str o.name,.str o.data]:=by rw[<-aT];simp only[go_sem]
     have aO:ao G (H.length+2)=.cells 0 [.sl true [],.sl true []]:=by rw[<-aT];simp only[go_sem]
     have bF:ao G (H.length+3)=.cells 0 [.sl false (n.map aW)]:=by rw[<-aT];simp only[go_sem]
     have Ki:=fun M=>bQ lL trivial M
     have Pb:=fun M=>bQ aQ trivial M
     have Pd:=fun M=>bQ bF trivial M
     have t1:List.take (g.entries.length-c) (List.map de g.entries)=List.map de (g.entries.take (g.entries.length-c)):=rX.symm;have t2:List.drop (g.entries.length-c) (List.map de g.entries)=List.map de (g.entries.drop (g.entries.length-c)):=y1.symm;have NZ:=aFF false (g.entries.take (g.entries.length-c)) n o hs (by omega) (by simp;omega) (G++[.cells 0 [.sl true ((g.entries.take (g.entries.length-c)).map de)]]) (H.length+3) G.length (by omega) (bQ bF trivial _) (rf _ _)
     simp only[bY]at NZ;refine bW ?_;refine qy NZ (aA) ?_;rintro x H' ⟨rfl,fG,cc,x8⟩;simp only[go_sem];have cH:(G++[bu.cells 0 [I.sl true ((g.entries.take (g.entries.length-c)).map de)]]).length=G.length+1:=by simp
     have iw:=LQ n o;have e3:(g.entries.take (g.entries.length-c)).length=g.entries.length-c:=by rw[e8];omega
     rw[cH,e3]at x8;have a8:ao H' H.length=.cells 0 [I.sl aV (g.entries.map de),.sl bm (g.nodes.map aW)]:=by
      rw[x8];exact bQ ((hI (by omega) _).trans ((hI (by omega) _).trans (Ki _))) trivial _
     have a3:ao H' (H.length+2)=.cells 0 [.sl true [],.sl true []]:=by
      rw[x8];exact bQ ((hI (by omega) _).trans ((hI (by omega) _).trans (bQ aO trivial _))) trivial _
     have a1:ao H' (H.length+3)=.cells 0 [.sl false ((ed n o).map aW)]:=by
      rw[x8];exact bQ (b:=.cells 0 [.sl false ((ed n o).map aW)]) ((hI (by omega) _).trans (wi (by rw[cH];omega) _)) trivial _
     have Xe:ao H' G.length=.cells 0 [.osl 17 (G.length+3) 1 0 (g.entries.length-c+1) (g.entries.length-c+1)]:=by
      rw[x8];exact bQ (b:=.cells 0 [.osl 17 (G.length+3) 1 0 (g.entries.length-c+1) (g.entries.length-c+1)]) (wi (by rw[lR,cH];omega) _) trivial _
     have Pf:ao H' (G.length+3)=.cells 1 (((g.entries.take (g.entries.length-c)++[(⟨o,j5 n o⟩:eH)]).map de).flatMap I.cells):=by
      rw[x8];exact w3 (n:=G.length+1) (k:=2) (by rw[lR,lR,cH])
     have vm:∃M,H'=H++M:=by
      rw[x8];exact AM (mb (mb (AM Wh _) (by omega) _) (by omega) _) _
     have aIP:H.length+3<G.length:=Jv;generalize G.length=B at a8 a3 a1 Xe Pf aIP ⊢;clear x8 aT Wh lL aQ aO bF Ki Pb Pd NZ cH Jv;refine b0 @JS ?_;clear bl m9 z0 zT he;refine b5 (ι:=Nat×ab) (fun x=>[(4,.ref (H.length+2) 0 0),(6,.ref (H.length+3) 0 0),(10,.ref B 0 0),(11,.func (.func 211) [] [.ref (H.length+3) 0 0,.ref B 0 0]),(83,.sl aV ((g.entries.drop (g.entries.length-c)).map de)),(84,.int .i64 ((g.entries.drop (g.entries.length-c)).length:Int)),(85,.int .i64 x.1)])
      (fun x=>x.2)
      (fun x=>x.1<=(g.entries.drop (g.entries.length-c)).length∧ao x.2 (H.length+2)=.cells 0 [.sl true [],.sl true []]∧
       ao x.2 (H.length+3)=.cells 0 [.sl false ((fb (o::((g.entries.drop (g.entries.length-c)).take x.1).map eH.op) (g.entries.take (g.entries.length-c)) n).2.map aW)]∧
       ao x.2 B=.cells 0 [.osl 17 (B+3) (x.1+1) 0 (fb (o::((g.entries.drop (g.entries.length-c)).take x.1).map eH.op) (g.entries.take (g.entries.length-c)) n).1.length (fb (o::((g.entries.drop (g.entries.length-c)).take x.1).map eH.op) (g.entries.take (g.entries.length-c)) n).1.length]∧
       ao x.2 (B+3)=.cells (x.1+1) (((fb (o::((g.entries.drop (g.entries.length-c)).take x.1).map eH.op) (g.entries.take (g.entries.length-c)) n).1.map de).flatMap I.cells)∧∃M,x.2=H++M) (fun x=>(g.entries.drop (g.entries.length-c)).length-x.1) (0,H')
      ⟨bG _,a3,by simpa[fb]using a1,by simpa[fb,e3]using Xe,by simpa[fb]using Pf,vm⟩ ?_ rfl ?_
     ·simp[go_sem]
     ·rintro⟨m,X⟩ ⟨nE,s2,l3,AS,yJ,Pp⟩;simp only at nE s2 l3 AS yJ Pp ⊢;have oh:=RU (o::((g.entries.drop (g.entries.length-c)).take m).map eH.op) (g.entries.take (g.entries.length-c)) n;have aSw:(g.entries.drop (g.entries.length-c)).length<=g.entries.length:=by rw[gL];omega
      have FP:((o::((g.entries.drop (g.entries.length-c)).take m).map eH.op)).length=m+1:=by simp;rw[gL]at nE;omega
      rw[FP,e3]at oh;by_cases ak:m<(g.entries.drop (g.entries.length-c)).length
      ·have ae:=dg de ak;have m8:(g.entries.drop (g.entries.length-c))[m]∈g.entries:=vG (hv ak);have Ac:=tC _ m8;have u4:=Rp (o::((g.entries.drop (g.entries.length-c)).take m).map eH.op) (g.entries.drop (g.entries.length-c))[m].op (g.entries.take (g.entries.length-c)) n;have ry:(o::((g.entries.drop (g.entries.length-c)).take m).map eH.op)++[(g.entries.drop (g.entries.length-c))[m].op]=o::((g.entries.drop (g.entries.length-c)).take (m+1)).map eH.op:=by
        rw[eB ak,n0];rfl
       rw[ry]at u4;generalize e2:fb (o::((g.entries.drop (g.entries.length-c)).take m).map eH.op) (g.entries.take (g.entries.length-c)) n=R at l3 AS yJ oh u4;have ez:H.length+3<X.length:=c8 l3 trivial;have bK:B<X.length:=c8 AS trivial;have b0:B+3<X.length:=c8 yJ trivial;have Xp:=fun M=>bQ l3 trivial M
       have Xq:=fun M=>bQ AS trivial M
       have Jb:=fun E=>aFG false R.1 R.2 (g.entries.drop (g.entries.length-c))[m].op Ac (by omega) (by omega) (X++[E]) (H.length+3) B (B+3) (m+1) (by omega) (by omega) (by omega) (by omega) (Xp _) (Xq _) (bQ yJ trivial _)
       simp only[bY]at Jb;have Ot:decide ((m:Int)<((g.entries.drop (g.entries.length-c)).length:Int))=true:=b1;repeat' first|((first|refine mx [7] CR ?_|refine ad ?_);simp only[go_sem,ae,de,Xp,Xq,Ot])|refine af ?_|fail
       refine qy (Jb _) (aA) ?_;rintro x y6 ⟨rfl,d0,d1,E7⟩;simp only[go_sem];refine aT ?_;have cO:(X++[bu.cells 0 (de (g.entries.drop (g.entries.length-c))[m]).cells]).length=X.length+1:=by simp
       refine⟨(m+1,y6),⟨ak,?_,?_,?_,?_,?_⟩,by simp only;omega,bH _ (dW ak (by omega)),rfl⟩
       ·simp only;rw[E7];exact bQ ((hI (by omega) _).trans ((hI (by omega) _).trans ((hI (by omega) _).trans (bQ s2 trivial _)))) trivial _
       ·simp only;rw[E7,u4];refine bQ (b:=.cells 0 [.sl false ((ed R.2 (g.entries.drop (g.entries.length-c))[m].op).map aW)]) ((hI (by omega) _).trans ((hI (by omega) _).trans (wi ?_ _))) trivial _
        rw[bt];omega
       ·simp only;rw[E7,u4];have aa:=wi (H:=ai (ai (X++[bu.cells 0 (de (g.entries.drop (g.entries.length-c))[m]).cells]) (H.length+3) (.cells 0 [.sl false ((ed R.2 (g.entries.drop (g.entries.length-c))[m].op).map aW)])) (B+3) (.cells (m+1+1) (((R.1++[(⟨(g.entries.drop (g.entries.length-c))[m].op,j5 R.2 (g.entries.drop (g.entries.length-c))[m].op⟩:eH)]).map de).flatMap I.cells))) (i:=B) (by rw[lR,lR,cO];omega) (.cells 0 [.osl 17 (B+3) (m+1+1) 0 (R.1.length+1) (R.1.length+1)])
        refine(bQ aa trivial _).trans ?_;rw[bt];rfl
       ·simp only;rw[E7,u4];refine bQ (b:=.cells (m+1+1) (((R.1++[(⟨(g.entries.drop (g.entries.length-c))[m].op,j5 R.2 (g.entries.drop (g.entries.length-c))[m].op⟩:eH)]).map de).flatMap I.cells)) ((hI (by omega) _).trans (wi ?_ _)) trivial _
        rw[lR,bt];omega
       ·simp only;rw[E7];exact AM (mb (mb (mb (AM Pp _) (by omega) _) (by omega) _) (by omega) _) _
      ·have aJ0:m=(g.entries.drop (g.entries.length-c)).length:=by omega
       subst aJ0;rw[eQ]at l3 AS yJ oh;have Ot:decide (((g.entries.drop (g.entries.length-c)).length:Int)<((g.entries.drop (g.entries.length-c)).length:Int))=false:=by simp
       obtain⟨M,kO⟩:=Pp;have aID:H.length+2<X.length:=c8 s2 trivial;have aS5:=yJ;generalize sk:(fb (o::(g.entries.drop (g.entries.length-c)).map eH.op) (g.entries.take (g.entries.length-c)) n)=R at l3 AS yJ oh ⊢;have aLH:∀b,ao (ai X (H.length+2) b) (H.length+2)=b:=fun b=>wi aID b
       repeat' first|((first|refine mx [7] CR ?_|refine ad ?_);simp only[go_sem,s2,l3,AS,Ot,aLH])|refine af ?_|fail
       obtain⟨M2,Vv⟩:=mb ⟨M,kO⟩ (i:=H.length+2) (by omega) (.cells 0 [.osl 17 (B+3) ((g.entries.drop (g.entries.length-c)).length+1) 0 R.1.length R.1.length,.sl false (R.2.map aW)])
       refine⟨M2,_,Vv,?_,rfl⟩;refine .a0 _ _ rfl (Ky (.agg _ _ rfl (Ky ?_ (Ky (.cl _ (bO.cl (by simp only[go_sem]) _)) RL))) (Ky (.cl _ (.int _ _)) RL))
       exact sG (es:=R.1.map de) (rest:=[]) (by omega) ((hI (by omega) _).trans yJ) (b2 _).symm (by rw[cP]) (JT _) (XE _)
end
namespace Go.Srt
section
variable {α:Type} (lt:α->α->Bool)
structure SWO:Prop where
 CP:∀a,lt a a=false
 yz:∀a b c,lt a b=false->lt b c=false->lt a c=false
 No:∀a b,lt a b=true->lt b a=false
def eqv(k x:α):Bool:= !lt k x&& !lt x k
theorem H8{k x:α}:eqv lt k x=true↔lt k x=false∧lt x k=false:=by simp[eqv]
def e9(l:List α):Prop:=l.Pairwise (fun a b=>lt b a=false)
def fm(xs ys:List α):Prop:=ys.length=xs.length∧∀k,ys.filter (eqv lt k)=xs.filter (eqv lt k)
variable {lt}
theorem SWO.O5(h:SWO lt){a b c:α}(h1:lt a b=true)(h2:lt c b=false):lt a c=true:=by
 cases h3:lt a c with
 |true=>rfl
 |false=>rw[h.yz a c b h3 h2]at h1;cases h1
theorem SWO.Ph(h:SWO lt){a b c:α}(h1:lt b a=false)(h2:lt b c=true):lt a c=true:=by
 cases h3:lt a c with
 |true=>rfl
 |false=>rw[h.yz b a c h1 h3]at h2;cases h2
theorem fm.refl(xs:List α):fm lt xs xs:=⟨rfl,fun _=>rfl⟩
theorem fm.trans{a b c:List α}(h:fm lt a b)(k:fm lt b c):fm lt a c:=⟨k.1.trans h.1,fun x=>(k.2 x).trans (h.2 x)⟩
theorem fm.app{a b c d:List α}(h:fm lt a b)(k:fm lt c d):fm lt (a++c) (b++d):=
 ⟨by rw[bt,bt,h.1,k.1],fun x=>by rw[ld,ld,h.2,k.2]⟩
theorem fm.mem{a b:List α}(hw:SWO lt)(h:fm lt a b)(x:α):x∈b↔x∈a:=by
 have e:eqv lt x x=true:=H8 lt|>.2 ⟨hw.CP x,hw.CP x⟩
 have:=h.2 x;have l1:x∈b.filter (eqv lt x)↔x∈b:=by rw[km];simp[e]
 have k0:x∈a.filter (eqv lt x)↔x∈a:=by rw[km];simp[e]
 rw[<-l1,<-k0,this]
theorem fm.swap(hw:SWO lt){A B:List α}(h:∀a∈A,∀b∈B,lt b a=true):fm lt (A++B) (B++A):=by
 refine⟨by rw[bt,bt,Nat.add_comm],fun k=>?_⟩
 rw[ld,ld];by_cases cf:A.filter (eqv lt k)=[]
 ·rw[cf,b2,gK]
 ·obtain⟨a,aD⟩:=List.exists_mem_of_ne_nil _ cf;rw[km]at aD;have bK:B.filter (eqv lt k)=[]:=by
   rw[List.filter_eq_nil_iff];intro b aa e;have ar:=(H8 lt).1 e;have au:=(H8 lt).1 aD.2;have:=hw.yz b k a ar.2 au.1;rw[h a aD.1 b aa]at this;cases this
  rw[bK,b2,gK]
theorem e9.app{a b:List α}(aD:e9 lt a)(aa:e9 lt b)(h:∀x∈a,∀y∈b,lt y x=false):e9 lt (a++b):=uw.2 ⟨aD,aa,h⟩
theorem e9.left{a b:List α}(h:e9 lt (a++b)):e9 lt a:=(uw.1 h).1
theorem e9.right{a b:List α}(h:e9 lt (a++b)):e9 lt b:=(uw.1 h).2.1
theorem e9.EM{a b:List α}(h:e9 lt (a++b)):∀x∈a,∀y∈b,lt y x=false:=(uw.1 h).2.2
theorem e9.nil:e9 lt ([]:List α):=List.Pairwise.nil
theorem e9.one(x:α):e9 lt [x]:=DF _ _
theorem e9.get{l:List α}(h:e9 lt l){i j:Nat}(gp:i<j)(aw:j<l.length):lt l[j] (l[i]'(by omega))=false:=xm.1 h i j (by omega) aw gp
theorem TG(hw:SWO lt){q6 ll:List α}{x:α}(hs:e9 lt (q6++ll))(h2:∀s∈ll,lt x s=true)(h1:∀s∈q6,lt x s=false):e9 lt (q6++x::ll):=by
 refine e9.app hs.left (qd.2 ⟨fun s m9=>hw.No _ _ (h2 s m9),hs.right⟩) fun a aD y aG=>?_
 rcases c7.1 aG with rfl|aG
 ·exact h1 a aD
 ·exact hs.EM a aD y aG
theorem TH(hw:SWO lt){q6 ll:List α}{x:α}(h2:∀s∈ll,lt x s=true):fm lt (q6++ll++[x]) (q6++x::ll):=by
 have h:fm lt (ll++[x]) ([x]++ll):=fm.swap hw fun a aD b aa=>by rw[dA]at aa;subst aa;exact h2 a aD
 have:=(fm.refl (lt:=lt) q6).app h;rw[cr];exact this
theorem aD4(hw:SWO lt){S:List α}{x y:α}(hs:e9 lt (S++[y]))(h:lt x y=false):∀s∈S++[y],lt x s=false:=by
 intro s hm;rcases eX.1 hm with hm|hm
 ·exact hw.yz _ _ _ h (hs.EM s hm y (by simp))
 ·rw[dA]at hm;subst hm;exact h
theorem aHd(hw:SWO lt){j7 iN iq hT:List α}(h:∀a∈iN,∀b∈iq,lt b a=true):fm lt (j7++iN++(iq++hT)) (j7++iq++(iN++hT)):=by
 have h1:=(fm.refl (lt:=lt) j7).app ((fm.swap hw h).app (fm.refl (lt:=lt) hT));have ar:j7++iN++(iq++hT)=j7++((iN++iq)++hT):=by simp
 have au:j7++iq++(iN++hT)=j7++((iq++iN)++hT):=by simp
 rw[ar,au];exact h1
theorem aHe(hw:SWO lt){j7 iN iq hT C D:List α}(uU:e9 lt C)(cD:e9 lt D)(aIo:fm lt (j7++iq) C)(aIp:fm lt (iN++hT) D)
  (cf:∀x∈j7,∀y∈iN,lt y x=false) (bK:∀x∈iq,∀y∈hT,lt y x=false) (I3:∀a∈iN,∀b∈iq,lt b a=true) (wu:∀x∈j7,∀y∈hT,lt y x=false):e9 lt (C++D):=by
 refine uU.app cD fun x J y aG=>?_
 rw[aIo.mem hw,eX]at J;rw[aIp.mem hw,eX]at aG;rcases J with J|J<;>rcases aG with aG|aG
 ·exact cf x J y aG
 ·exact wu x J y aG
 ·exact hw.No _ _ (I3 y aG x J)
 ·exact bK x J y aG
end
end Go.Srt
section
theorem nw(H:ab)(i:Nat)(b cN:bu):ai (ai H i b) i cN=ai H i cN:=by simp[ai]
theorem m2{H:ab}{i:Nat}{b:bu}(h:ao H i=b)(aa:b.live)(cN:bu):ao (ai H i cN) i=cN:=wi (c8 h aa) cN
theorem oY{H:ab}{i:Nat}{b:bu}(h:ao H i=b)(aa:b.live):ai H i b=H:=MJ (kd h aa)
where
 W7 (l:List bf):∀e∈l.map bY,bO e:=fun e he=>by
  obtain⟨x,_,rfl⟩:=bP.1 he;exact(by simp only[go_sem])
theorem AN{H:ab}{i n:Nat}{b:bu}(aa:dp n b):∀(j:Nat) (c:bu),(ai H i b)[j]?=some c->H[j]?=some c∨dp n c:=by
 intro j c aw;by_cases e:i=j
 ·subst e;unfold ai at aw;by_cases hl:i<H.length
  ·rw[oI hl]at aw;cases aw;exact .inr aa
  ·rw[yW (by rw[gj];omega)]at aw;cases aw
 ·unfold ai at aw;rw[gS e]at aw;exact .inl aw
theorem lS{H:ab}{i:Nat}{b:bu}(aa:dp H.length b)(R:I->ab->Prop)(e2:R (.a0 []) (ai H i b)):
  ∃H1 L y,ai H i b=H1++L∧H1.length=H.length∧(∀(j:Nat) (c:bu),H1[j]?=some c->H[j]?=some c∨dp H.length c)∧cQ H.length (ai H i b) (.a0 []) y∧R y H1:=by
 exact⟨ai H i b,[],.a0 [],(b2 _).symm,lR H i b,AN aa,.cl _ (bO.cl (.a0 _ (fun _ h=>by cases h)) _),e2⟩
theorem b9{n:Nat}{m:Int}(h:(n:Int)=m)(ag:n<=9223372036854775807):IntKind.i64.wrap m=(n:Int):=by subst h;exact cB
theorem BF{P:Program}{N:Nat}{x y:Code}{Q:dU}{α:a5}{H:ab}{ι:Type}(F:ι->a5)(hH:ι->ab)(pre:ι->Prop)(h1:di P N x (zu F hH pre Q) α H)(h2:∀i,pre i->di P N y Q (F i) (hH i)):di P N x (zh P N y Q) α H:=by
 refine Hx h1 fun e c1 H' h=>?_
 cases e with
 |normal=>
  obtain⟨i,ae,hs,rfl⟩:=h;exact Kw (h2 i ae) (Av hs)
 |_=>exact h
open Go.Srt
end
section
def jK(b:UInt8):List UInt8->List (List UInt8)
 |[]=>[[]]
 |c::l=>match jK b l with
  |[]=>[[]]
  |h::t=>if c=b then[]::h::t else(c::h)::t
theorem Kz(b:UInt8)(l:List UInt8):jK b l≠[]:=by
 cases l with
 |nil=>simp[jK]
 |cons c l=>rw[jK];split;simp;split<;>simp
theorem QZ{b:UInt8}{l:List UInt8}(h:Lib.indexByte l b<0):jK b l=[l]∧Lib.countByte l b=0:=by
 induction l with
 |nil=>exact⟨rfl,rfl⟩
 |cons c l ay=>
  rw[Lib.indexByte]at h;split at h
  ·omega
  ·rename_i h1;have h2:Lib.indexByte l b<0:=by
    have:=Lib.indexByte_ge l b;split at h
    ·rename_i h3;have:Lib.indexByte l b= -1:=by simpa using h3
     omega
    ·omega
   obtain⟨ar,au⟩:=ay h2;have h3:¬c=b:=by simpa using h1
   refine⟨by rw[jK,ar];simp[h3],?_⟩
   unfold Lib.countByte at au ⊢;rw[List.count_cons,au];simp[h3]
theorem Q0{b:UInt8}{l:List UInt8}{k:Nat}(h:Lib.indexByte l b=k):k<l.length∧jK b l=l.take k::jK b (l.drop (k+1))∧Lib.countByte l b=Lib.countByte (l.drop (k+1)) b+1:=by
 induction l generalizing k with
 |nil=>rw[Lib.indexByte]at h;omega
 |cons c l ay=>
  rw[Lib.indexByte]at h;split at h
  ·rename_i h1;have h1:c=b:=by simpa using h1
   have hk:k=0:=by omega
   subst hk;subst h1;refine⟨by simp,?_,?_⟩
   ·rw[jK];cases hs:jK c l with
    |nil=>exact absurd hs (Kz c l)
    |cons x t=>simp[hs]
   ·unfold Lib.countByte;simp
  ·rename_i h1;have h3:¬c=b:=by simpa using h1
   split at h
   ·omega
   ·obtain⟨j,rfl⟩:∃j,k=j+1:=⟨k-1,by
     rename_i h4;have:=Lib.indexByte_ge l b;have cz:¬Lib.indexByte l b= -1:=by simpa using h4
     omega⟩
    obtain⟨dq,bZ,dO⟩:=ay (k:=j) (by omega)
    refine⟨by simpa using dq,?_,?_⟩
    ·rw[jK,bZ];simp[h3]
    ·unfold Lib.countByte at dO ⊢;rw[List.count_cons,dO];simp[h3]
theorem Zg{b:UInt8}{l:List UInt8}(h:Lib.countByte l b=0):jK b l=[l]:=by
 rcases Int.lt_or_le (Lib.indexByte l b) 0 with h1|h1
 ·exact(QZ h1).1
 ·have:=(Q0 (b:=b) (l:=l) (k:=(Lib.indexByte l b).toNat) (by omega)).2.2
  omega
theorem ZJ{b:UInt8}{l:List UInt8}(h:0<Lib.countByte l b):∃k:Nat,Lib.indexByte l b=k:=by
 rcases Int.lt_or_le (Lib.indexByte l b) 0 with h1|h1
 ·have:=(QZ h1).2;omega
 ·exact⟨(Lib.indexByte l b).toNat,by omega⟩
theorem Q1(A B:List I)(y x:I){n:Nat}(h:A.length=n):dw (A++y::B) (n * 1) [x]=A++x::B:=by
 subst h;rw[eE];simp[dw]
theorem aBJ(s:List UInt8)(b:UInt8)(hs:s.length<=1048576)(H:ab):aY Tryz.prog 155 [.str s,.str [b],.int .i64 0,.int .i64 (-1)] H (.sl false ((jK b s).map I.str)):=by
 refine bh Tryz.func155 ?_;have aSo:Lib.countByte s b<=s.length:=List.count_le_length;have aSp:=aAT s b;generalize hm:Lib.countByte s b=m at *;have c4:IntKind.i64.wrap ((m:Int)+1)=((m+1:Nat):Int):=by rw[cB];rfl
 have dm:IntKind.i64.wrap ((s.length:Int)+1)=((s.length+1:Nat):Int):=by rw[cB];rfl
 have ee:min ((m+1:Nat):Int) ((s.length+1:Nat):Int)=((m+1:Nat):Int):=by omega
 have dH:IntKind.i64.wrap (((m+1:Nat):Int)-1)=(m:Int):=by rw[cB];omega
 have fD:(((m+1:Nat):Int)).toNat=m+1:=j6 _;have dP:List.flatMap I.cells (List.replicate (m+1) (I.str []))=List.replicate (m+1) (I.str []):=by
  rw[List.flatMap_replicate];simp[I.cells]
 have kP:∀l:List (List UInt8),(l.map I.str).flatMap I.cells=l.map I.str:=fun l=>by
  rw[List.flatMap_map];induction l with|nil=>rfl|cons x l ay=>rw[qe,dn,ay];rfl
 refine bW ?_;refine b5 (ι:=Nat×List (List UInt8)×List UInt8) (fun x=>[(0,.str x.2.2),(1,.str [b]),(2,.int .i64 0),(3,.int .i64 m),(9,.osl 1 H.length 1 0 (m+1) (m+1)),(10,.int .i64 x.1)])
  (fun x=>H++[.cells 1 (x.2.1.map I.str++List.replicate (m+1-x.1) (.str []))])
  (fun x=>x.1<=m∧x.2.1.length=x.1∧jK b s=x.2.1++jK b x.2.2∧Lib.countByte x.2.2 b+x.1=m∧x.2.2.length<=s.length) (fun x=>m-x.1) (0,[],s) ⟨bG _,rfl,rfl,hm,bk _⟩ ?_ (by simp) ?_
 ·simp[go_sem]
 ·rintro⟨i,pre,r⟩ ⟨hi,hl,dK,Jg,oh⟩;simp only at hi hl dK Jg oh ⊢;by_cases ak:i<m
  ·obtain⟨k,hk⟩:=ZJ (b:=b) (l:=r) (by omega)
   obtain⟨k1,k2,k3⟩:=Q0 hk;have o5:=aAU r b;rw[hk]at o5;have aH:decide ((i:Int)<(m:Int))=true:=b1;have m6:decide ((k:Int)<0)=false:=cg;have fr:IntKind.i64.wrap ((k:Int)+0)=(k:Int):=by rw[cB];omega
   have dZ:IntKind.i64.wrap ((k:Int)+1)=((k+1:Nat):Int):=by rw[cB];rfl
   repeat' first|(refine ad ?_;simp only[go_sem,aH,m6,fr,dZ])|refine bx ?_|(refine bD ?_ ?_<;>intro h<;>try exact bB h)|fail
   have gh:(IntKind.i64.wrap ((k:Int)+((1:Nat):Int))).toNat=k+1:=by rw[cB];omega
   refine⟨(i+1,pre++[r.take k],r.drop (k+1)),⟨ak,by simp[hl],by rw[dK,k2];simp,by simp only;omega,by simp only[gL];omega⟩,by simp only;omega,⟨by rw[gh],bH _ (dW ak (by omega))⟩,?_⟩
   have ar:m+1-i=(m-i)+1:=by omega
   have au:m+1-(i+1)=m-i:=by omega
   simp only[ar,au,Ba];rw[Q1 _ _ _ _ (by rw[cP];exact hl)]
   simp
  ·have fx:i=m:=by omega
   subst fx;have aH:decide ((i:Int)<(i:Int))=false:=by simp
   repeat' first|(refine ad ?_;simp only[go_sem,aH])|refine bx ?_|(refine bD ?_ ?_<;>intro h<;>try exact bB h)|fail
   have ar:i+1-i=1:=by omega
   have bd:(IntKind.i64.wrap ((i:Int)+1)).toNat=i+1:=by rw[cB];omega
   have bE:jK b s=pre++[r]:=by rw[dK,Zg (b:=b) (l:=r) (by omega)]
   simp only[ar,bd,Ba,List.replicate_zero];rw[Q1 _ _ _ _ (by rw[cP];exact hl)]
   have cE:pre.map I.str++[I.str r]=(jK b s).map I.str:=by rw[bE];simp
   rw[cE];exact p3 (cs:=(jK b s).map I.str) (es:=(jK b s).map I.str) (rest:=[]) (by omega) (by simp only[go_sem]) (by rw[kP,b2]) (by rw[cP,bE];simp[hl]) (fun e he=>by obtain⟨x,_,rfl⟩:=bP.1 he;rfl) (fun e he=>by obtain⟨x,_,rfl⟩:=bP.1 he;exact(by simp only[go_sem])) rfl
end
section
theorem ZK{b:UInt8}{l:List UInt8}:∀x∈jK b l,x.length<=l.length:=by
 induction l with
 |nil=>intro x J;simp[jK]at J;simp[J]
 |cons c l ay=>
  intro x J;rw[jK]at J;cases hs:jK b l with
  |nil=>exact absurd hs (Kz b l)
  |cons y t=>
   rw[hs]at ay;simp only[hs]at J;rw[cm];by_cases h:c=b
   ·rw[aF h]at J;rcases c7.1 J with q|q
    ·rw[q];simp
    ·have:=ay x q;omega
   ·rw[az h]at J;rcases c7.1 J with q|q
    ·have:=ay y (by simp);rw[q,cm];omega
    ·have:=ay x (by simp[q]);omega
def v5(l:List aM):Bool:=decide ((l.length:Int)<=16)&&l.all qC
def gl(p:aM):Option (List aM):=
 if p=[47]then some []else match p with
 |[]=>none
 |c::l=>if c=47 then(if v5 (jK 47 l)=true then some (jK 47 l)else none)else none
theorem aBK(s:List UInt8)(b:UInt8)(hs:s.length<=1048576)(H:ab):aY Tryz.prog 107 [.str s,.str [b]] H (.sl false ((jK b s).map I.str)):=by
 refine bh Tryz.func107 ?_;have aJ:=aBJ s b hs;repeat' first|(refine ad ?_;simp only[go_sem])|refine bx ?_|(refine bD ?_ ?_<;>intro h<;>try exact bB h)|fail
 exact bC (.refl _)
theorem aHf(f:Bool)(l:List aM)(hl:∀x∈l,x.length<=1048576)(H:ab):aY Tryz.prog 108 [.sl f (l.map I.str)] H (.bool (v5 l)):=by
 refine bh Tryz.func108 ?_;by_cases NF:(l.length:Int)<=16
 ·have hd:decide ((16:Int)<(l.length:Int))=false:=cg;have lA:v5 l=l.all qC:=by rw[v5,cF NF,hG]
  rw[lA];refine bW ?_;refine b5 (ι:=Nat) (fun i=>[(8,.sl f (l.map I.str)),(9,.int .i64 l.length),(10,.int .i64 i)]) (fun _=>H) (fun i=>i<=l.length∧∀x∈l.take i,qC x=true) (fun i=>l.length-i) 0 ⟨bG _,by simp⟩ ?_ rfl ?_
  ·simp[go_sem]
  ·rintro i ⟨hi,bl⟩;by_cases ak:i<l.length
   ·have ae:=dg I.str ak;have aH:decide ((i:Int)<(l.length:Int))=true:=b1;have ag:=KQ l[i] (by have:=hl _ (hv ak);omega)
    cases hk:qC l[i]with
    |false=>
     rw[hk]at ag;have fi:l.all qC=false:=by rw[List.all_eq_false];exact⟨l[i],hv ak,by rw[hk];decide⟩
     rw[fi];refine bW ?_;exact bC (.refl _)
    |true=>
     rw[hk]at ag;refine bW ?_;refine⟨i+1,⟨ak,fun x J=>?_⟩,by omega,bH _ (dW ak (by omega))⟩
     rw[eB ak,eX,dA]at J;rcases J with q|q
     ·exact bl x q
     ·rw[q];exact hk
   ·have fx:i=l.length:=by omega
    subst fx;have aH:decide ((l.length:Int)<(l.length:Int))=false:=by simp
    have fi:l.all qC=true:=gT.2 (by rwa[eQ]at bl)
    rw[fi];refine bW ?_;exact bC (.refl _)
 ·have hd:decide ((16:Int)<(l.length:Int))=true:=b1;have lA:v5 l=false:=by rw[v5,b8 NF,xj]
  rw[lA];refine bW ?_;exact bC (.refl _)
def kV(p:aM):I:=match gl p with
 |none=>.a0 [.sl true [],.int .i64 10]
 |some l=>.a0 [.sl (decide (p=[47])) (l.map I.str),.int .i64 0]
theorem DQ(p:aM)(hs:p.length<=1048576)(H:ab):aY Tryz.prog 77 [.str p] H (kV p):=by
 refine bh Tryz.func77 ?_;have Ff:=aFx p 47;by_cases h1:p=[47]
 ·have hd:decide (p=[47])=true:=cF h1;simp only[kV,gl,aF h1,hd];refine bW ?_;exact bC (.refl _)
 ·have hd:decide (p=[47])=false:=b8 h1;simp only[kV,gl,az h1,hd];cases p with
  |nil=>
   simp only[uH]at Ff;refine bW ?_;exact bC (.refl _)
  |cons c l=>
   rw[cm]at hs;by_cases h2:c=47
   ·simp only[uH,aF h2]at Ff ⊢;have dK:=aBK l 47 (by omega)
    have Oc:=aHf false (jK 47 l) (fun x J=>by have:=ZK x J;omega)
    cases an:v5 (jK 47 l)with
    |false=>
     rw[an]at Oc;repeat' first|(refine ad ?_;simp only[go_sem,hd])|refine bx ?_|(refine bD ?_ ?_<;>intro h<;>try exact bB h)|fail
     exact bC (.refl _)
    |true=>
     rw[an]at Oc;repeat' first|(refine ad ?_;simp only[go_sem,hd])|refine bx ?_|(refine bD ?_ ?_<;>intro h<;>try exact bB h)|fail
     exact bC (.refl _)
   ·simp only[uH,az h2]at Ff ⊢;refine bW ?_;exact bC (.refl _)
end
section
structure b3 where
 kind:Int
 path:aM
 to:aM
 data:aM
 n:Int
deriving DecidableEq,Inhabited
structure dS where
 kind:Int
 path:aM
deriving DecidableEq,Inhabited
structure hS where
 err:Int
 data:aM
 names:List aM
 n:Int
 events:List dS
deriving DecidableEq,Inhabited
structure ba where
 call:b3
 has:List Int
 at_:Int
 done:Bool
 ended:Bool
 upto:Int
 dJ:Int
 mark:Int
 end_:Int
 bp:hS
deriving DecidableEq,Inhabited
structure eR where
 kind:Int
 lock:Int
deriving DecidableEq,Inhabited
def qW(s:aM):I:=.str s
def cJ(c:b3):I:=.agg [.int .i64 c.kind,.str c.path,.str c.to,.str c.data,.int .i64 c.n]
def ct(e:dS):I:=.agg [.int .i64 e.kind,.str e.path]
def oF(t:eR):I:=.agg [.int .i64 t.kind,.int .i64 t.lock]
def jd(h n e:I)(t:ba):I:=.agg [.int .i64 t.call.kind,.str t.call.path,.str t.call.to,.str t.call.data,.int .i64 t.call.n,h,.int .i64 t.at_,.bool t.done,.bool t.ended,.int .i64 t.upto,.int .i64 t.dJ,.int .i64 t.mark,.int .i64 t.end_,
 .int .i64 t.bp.err,.str t.bp.data,n,.int .i64 t.bp.n,e]
def g9(f1 f2 f3:Bool)(t:ba):I:=jd (.sl f1 (t.has.map bj)) (.sl f2 (t.bp.names.map I.str)) (.sl f3 (t.bp.events.map ct)) t
@[go_sem] theorem aRJ(x:b3):bO (cJ x)=True:=by simp only[cJ,go_sem]
@[go_sem] theorem aRK(x:dS):bO (ct x)=True:=by simp only[ct,go_sem]
@[go_sem] theorem aRL(x:eR):bO (oF x)=True:=by simp only[oF,go_sem]
@[go_sem] theorem aRM(f1 f2 f3:Bool)(x:ba):bO (g9 f1 f2 f3 x)=True:=by simp only[g9,jd,go_sem]
def sf:b3:=⟨0,[],[],[],0⟩
def c2:hS:=⟨0,[],[],0,[]⟩
def nU(c:b3):ba:=⟨c,[],0,false,false,0,0,0,0,c2⟩
def gR(c:b3):Bool:=decide (c.kind=1)||decide (c.kind=2)||decide (c.kind=3)||decide (c.kind=10)||(decide (c.kind=4)||decide (c.kind=7))&&decide (c.n=0)
def fC(c:b3):Bool:=decide (c.kind=5)||decide (c.kind=6)||decide (c.kind=13)
def hr(c:b3):List aM:=match gl c.path with
 |none=>[]
 |some l=>if c.kind=7∨c.kind=10 then l else l.dropLast
theorem F5{p:aM}{l:List aM}(h:gl p=some l):l.length<=16:=by
 unfold gl at h;split at h
 ·cases h;simp
 ·split at h
  ·cases h
  ·split at h
   ·split at h
    ·rename_i an;cases h;simp only[v5,dD,hR]at an;omega
    ·cases h
   ·cases h
def fZ(l:List aB)(p:aM):Option Int:=match gl p with
 |some (x::xs)=>if(fg l (x::xs).dropLast).2=0∧dy (fg l (x::xs).dropLast).1=true then some (fg l (x::xs).dropLast).1 else none
 |_=>none
def jw(bc:List Int)(o:Option Int):List Int:=match o with
 |some d=>if bc.contains d=true then bc else bc++[d]
 |none=>bc
def mN(c:b3):List aM:=if c.kind=5 then[c.path,c.to]else if c.kind=6 then[c.path]else[]
def xf(l:List aB)(c:b3):List Int:=(mN c).foldl (fun bc p=>jw bc (fZ l p)) []
def nL(l:List aB)(a b:Int):Bool:=(nb l b).contains a
def nc(l:List aB)(bc:List Int):List Int:=match bc with
 |[a,b]=>if(!nL l a b&&(nL l b a||decide (b<a)))=true then[b,a]else[a,b]
 |bc=>bc
def ij(l:List aB)(c:b3):List Int:=1::nc l (xf l c)
def mW(has:List Int):List Int->eR
 |[]=>⟨3,0⟩
 |k::cp=>if has.contains k=true then mW has cp else⟨1,k⟩
def sZ(l:List aB)(names:List aM)(t:ba):eR:=match t.has with
 |[]=>⟨1,0⟩
 |_::_::_=>⟨2,t.has.headD 0⟩
 |[here]=>
  match(if 0<=t.at_ then names[t.at_.toNat]? else none).bind (fp l here)with
  |some n=>if dy n.id=true then⟨1,n.id⟩else if(fg l names).2=0∧dy (fg l names).1=true∧(fg l names).1≠here then⟨2,here⟩else⟨3,0⟩
  |none=>if(fg l names).2=0∧dy (fg l names).1=true∧(fg l names).1≠here then⟨2,here⟩else⟨3,0⟩
def fM(l:List aB)(t:ba):eR:=
 if t.ended=true then⟨0,0⟩else if t.done=true then(match t.has with|k::_=>⟨2,k⟩|[]=>if t.call.kind=12 then⟨4,0⟩else⟨5,0⟩)
 else if fC t.call=true then mW t.has (ij l t.call)else if gR t.call=true then sZ l (hr t.call) t else⟨3,0⟩
def dj(t:ba)(u:eR):ba:=
 if u.kind=1 then{t with at_:=if t.has.length=1∧gR t.call=true then IntKind.i64.wrap (t.at_+1)else t.at_,has:=t.has++[u.lock]}
 else if u.kind=2 then{t with has:=t.has.filter (fun k=> !decide (k=u.lock)),at_:=if t.has.filter (fun k=> !decide (k=u.lock))=[]∧t.done=false∧gR t.call=true then 0 else t.at_}
 else if u.kind=3 then{t with done:=true}else if u.kind=5 then{t with ended:=true}else t
def nS(t:ba):ba:={t with has:=[],at_:=0}
theorem Sn{has cp:List Int}{k:Int}(h:has.contains k=true):mW has (k::cp)=mW has cp:=by rw[mW,aF h]
theorem Lv{has cp:List Int}{k:Int}(h:has.contains k=false):mW has (k::cp)=⟨1,k⟩:=by rw[mW,az (by rw[h];intro q;cases q)]
theorem PL(c:b3):(hr c).length<=16:=by
 unfold hr;split
 ·simp
 ·rename_i l h;have:=F5 h;split
  ·exact this
  ·rw[List.length_dropLast];omega
theorem Ym{p:aM}(ag:gl p=some []):p=[47]:=by
 by_cases ae:p=[47]
 ·exact ae
 ·unfold gl at ag;rw[az ae]at ag;split at ag
  ·cases ag
  ·split at ag
   ·split at ag
    ·exact absurd (nY ag) (Kz _ _)
    ·cases ag
   ·cases ag
theorem aBk(bc:List Int)(o:Option Int):(jw bc o).length<=bc.length+1:=by
 unfold jw;split
 ·split
  ·omega
  ·simp
 ·omega
theorem Zh(l:List aB)(c:b3):(xf l c).length<=2:=by
 have h:∀(ps:List aM) (bc:List Int),(ps.foldl (fun bc p=>jw bc (fZ l p)) bc).length<=bc.length+ps.length:=by
  intro ps;induction ps with
  |nil=>intro bc;simp
  |cons p ps ay=>intro bc;rw[nZ];have:=ay (jw bc (fZ l p));have:=aBk bc (fZ l p);simp only[cm];omega
 have h1:=h (mN c) [];have h2:(mN c).length<=2:=by rw[mN];split<;>(try split)<;>simp
 rw[xf];simp only[ew]at h1;omega
theorem Zi(l:List aB)(bc:List Int):(nc l bc).length=bc.length:=by
 unfold nc;split
 ·split<;>rfl
 ·rfl
theorem Zj(l:List aB)(c:b3):(ij l c).length<=3:=by
 have:=Zh l c;rw[ij,cm,Zi];omega
end
section
open Go.ChangeShapes Go.WideShapes Go.ChangeAt Go.RowKit
theorem aHg:ke Tryz.prog 49=true:=by kernel_rfl
theorem aFI:lJ Tryz.prog 49=true:=by kernel_rfl
theorem Lw{ys:List I}(h:gM Tryz.prog 49 ys):∃o:b3,ys=(cJ o).cells:=by
 obtain⟨nV,K4,rfl,h1,aU⟩:=lQ (Gi Tryz.underlying49 aFI h);obtain⟨oH,K5,rfl,h2,a3⟩:=lQ aU;obtain⟨mA,P7,rfl,h3,a1⟩:=lQ a3;obtain⟨Dy,P8,rfl,h4,a4⟩:=lQ a1;obtain⟨Dz,XR,rfl,cz,eh⟩:=lQ a4;obtain rfl:=GU eh;obtain⟨a,rfl,_⟩:=sO Tryz.underlying3 h1;obtain⟨s,rfl,_⟩:=DA Tryz.underlying9 h2;obtain⟨u,rfl,_⟩:=DA Tryz.underlying9 h3;obtain⟨v,rfl,_⟩:=DA Tryz.underlying9 h4;obtain⟨b,rfl,_⟩:=sO Tryz.underlying3 cz;exact⟨⟨a,s,u,v,b⟩,rfl⟩
end
section
open Go.ChangeShapes Go.WideShapes Go.ChangeAt Go.RowKit
theorem aFJ:ke Tryz.prog 72=false:=by kernel_rfl
theorem aD5:lJ Tryz.prog 72=true:=by kernel_rfl
theorem aFK:ke Tryz.prog 9=false:=by kernel_rfl
theorem aD6{ft:List (List I)}(h:∀z∈ft,gM Tryz.prog 49 z):∃l:List b3,ft.map (ik Tryz.prog 49)=l.map cJ∧l.length=ft.length:=by
 induction ft with
 |nil=>exact⟨[],rfl,rfl⟩
 |cons z ft ay=>
  obtain⟨p,rfl⟩:=Lw (h z (by simp))
  obtain⟨l,h1,h2⟩:=ay fun z a2=>h z (by simp[a2])
  refine⟨p::l,?_,by simp[h2]⟩
  rw[dn,dn,h1,ik,aF aHg];rfl
theorem aBl{x:I}(h:∃ys,x=ik Tryz.prog 72 ys∧gM Tryz.prog 72 ys∧(ke Tryz.prog 72=true∨ys.length=1)):∃l:List b3,x=.sl false (l.map cJ)∧l.length<=maxLen:=by
 obtain⟨ys,rfl,h,_⟩:=h;obtain⟨ft,rfl,hl,a2⟩:=Gx Tryz.underlying72 aD5 h;obtain⟨l,h1,h2⟩:=aD6 a2;refine⟨l,?_,by rw[h2];exact hl⟩
 rw[ik,az (by rw[aFJ];decide),h1];rfl
end
section
def ig:List Int->List Int->Int
 |[],[]=>0
 |[],(_::_)=> -1
 |_::_,[]=>1
 |x::xs,y::ys=>if x<y then-1 else if y<x then 1 else ig xs ys
def hJ(s:aM):List Int:=match rI s with
 |some l=>l
 |none=>s.map fun b=>((b.toNat:Int)+1114112)
def kZ(a b:aM):Bool:=decide (ig (hJ a) (hJ b)<0)
theorem Gf(a b:List Int):ig a b= -1∨ig a b=0∨ig a b=1:=by
 induction a generalizing b<;>grind [ig,List,Int]
theorem LU{a b:List Int}(h:ig a b=0):a=b:=by
 induction a generalizing b with
 |nil=>grind [ig,List,Int]
 |cons x a ay=>
  cases b with
  |nil=>simp[ig]at h
  |cons y b=>
   grind [ig]
theorem aAA(a:List Int):ig a a=0:=by
 induction a with
 |nil=>rfl
 |cons x a ay=>rw[ig,az (by omega),az (by omega),ay]
theorem KA(a b:List Int):ig b a= -ig a b:=by
 induction a generalizing b<;>grind [ig,List,Int]
theorem Q2{a b c:List Int}(h:ig a b= -1)(k:ig b c= -1):ig a c= -1:=by
 induction a generalizing b c with
 |nil=>
  grind [ig,List,Int]
 |cons x a ay=>
  cases b with
  |nil=>simp[ig]at h
  |cons y b=>
   cases c with
   |nil=>simp[ig]at k
   |cons z c=>
    rw[ig]at h k ⊢;grind
theorem PM(s:aM)(pos:Nat):iY s pos=Lib.decodeL (s.drop pos):=(Lib.decodeL_drop ⟨s.toArray⟩ pos).symm
theorem aHF{l:aM}(h:zd [239,191,189] l=true):Lib.decodeL l=(65533,3):=by
 unfold zd at h;simp only[dD,hR]at h;obtain⟨h1,h2⟩:=h
 match l,h1,h2 with
 |a::b::c::r,h1,h2=>
  simp only[cm,ew,List.take_succ_cons,xr,List.cons.injEq,and_true]at h2;obtain⟨rfl,rfl,rfl⟩:=h2;simp[cm,ew,List.take_succ_cons,xr,List.cons.injEq,Lib.decodeL_N,DG,DM,Lib.decodeN,]
theorem Yi(s:aM):∀(k pos:Nat) (l:List Int),oj s k pos=some l->s.drop pos=l.flatMap Lib.encodeRune∧∀x∈l,x<=1114111:=by
 intro k;induction k with
 |zero=>
  simp[pos,oj,Ho,]
 |succ k ay=>
  intro pos l h;unfold oj at h;split at h
  ·rename_i ak;split at h
   ·rename_i al;cases ax:oj s k (pos+(iY s pos).2)with
    |none=>rw[ax]at h;cases h
    |some r=>
     rw[ax,rY]at h;obtain⟨ar,au⟩:=ay _ _ ax;cases h;have aP:s.drop pos≠[]:=by rw[Ne,List.drop_eq_nil_iff];omega
     have aL:¬((Lib.decodeL (s.drop pos)).1=65533∧(Lib.decodeL (s.drop pos)).2=1):=by
      rintro⟨aQ,aO⟩;rcases al with al|al
      ·rw[PM,aQ]at al;simp at al
      ·rw[aHF al]at aO;cases aO
     have mh:=Lib.encode_decode _ aP aL;rw[<-PM]at mh;refine⟨?_,fun x J=>?_⟩
     ·rw[qe,mh,<-ar,<-Bg,jf]
     ·rcases c7.1 J with rfl|J
      ·have:=Lib.decodeL_rune (s.drop pos);rw[<-PM]at this;omega
      ·exact au x J
   ·cases h
  simp_all
theorem Kb{s:aM}{l:List Int}(h:rI s=some l):s=l.flatMap Lib.encodeRune∧∀x∈l,x<=1114111:=Yi s _ 0 l h
theorem Zk{a b:aM}(h:hJ a=hJ b):a=b:=by
 have aH1:∀{s:aM} {l:List Int},rI s=none->(∀x∈l,x<=1114111)->(s.map fun b=>((b.toNat:Int)+1114112))≠l:=by
  intro s l hs hl he;cases s with
  |nil=>cases hs
  |cons c s=>
   have:=hl ((c.toNat:Int)+1114112) (by rw[<-he];simp)
   omega
 unfold hJ at h;cases aD:rI a with
 |some l=>
  obtain⟨ar,au⟩:=Kb aD;cases aa:rI b with
  |some m=>
   rw[aD,aa]at h;rw[ar,(Kb aa).1];exact bH _ h
  |none=>
   grind
 |none=>
  cases aa:rI b with
  |some m=>
   rw[aD,aa]at h;exact absurd h (aH1 aD (Kb aa).2)
  |none=>
   rw[aD,aa]at h;simp only at h;refine(List.map_inj_right fun x y cV=>?_).1 h
   have:x.toNat=y.toNat:=by omega
   exact UInt8.toNat_inj.1 this
theorem Ds:Sort.SWO kZ where
 irrefl:=fun x=>by simp[kZ,aAA]
 trans:=fun x y z h k=>by
  unfold kZ at *;rw[hR]at *;have h1:=Gf (hJ x) (hJ y);have h2:=Gf (hJ y) (hJ z);rw[Q2 (show ig (hJ x) (hJ y)= -1 by omega) (show ig (hJ y) (hJ z)= -1 by omega)]
  omega
 ntrans:=fun x y z h k=>by
  unfold kZ at *;rw[nm]at *;intro q;have h1:=Gf (hJ x) (hJ y);have h2:=Gf (hJ y) (hJ z);have h3:=Gf (hJ x) (hJ z);have dq:=KA (hJ x) (hJ y);have bZ:=KA (hJ y) (hJ z);rcases h1 with h1|h1|h1
  ·omega
  ·rw[LU h1]at q;omega
  ·rcases h2 with h2|h2|h2
   ·omega
   ·rw[<-LU h2]at q;omega
   ·have:=Q2 (show ig (hJ z) (hJ y)= -1 by omega) (show ig (hJ y) (hJ x)= -1 by omega)
    have dO:=KA (hJ x) (hJ z);omega
theorem aAB{x y:aM}(h:kZ x y=false)(k:kZ y x=false):x=y:=by
 unfold kZ at *;rw[nm]at *;have:=KA (hJ x) (hJ y);exact Zk (LU (by omega))
def pA(l:List aM):List aM:=l.mergeSort fun x y=> !kZ y x
theorem aFL(a b c:aM):(!kZ b a)=true->(!kZ c b)=true->(!kZ c a)=true:=by
 simp only[nk];exact fun h k=>Ds.ntrans c b a k h
theorem aD7(a b:aM):((!kZ b a)||(!kZ a b))=true:=by
 cases h:kZ b a with
 |false=>rfl
 |true=>
  cases k:kZ a b with
  |false=>rfl
  |true=>have:=Ds.trans _ _ _ h k;rw[Ds.irrefl]at this;cases this
theorem Gt(l:List aM):(pA l).Perm l:=List.mergeSort_perm ..
theorem Yj(l:List aM):(pA l).Pairwise fun x y=>(!kZ y x)=true:=List.pairwise_mergeSort aFL aD7 l
theorem Zl{a l:List aM}(hs:a.Pairwise fun x y=>(!kZ y x)=true)(ae:a.Perm l):a=pA l:=
 List.Perm.eq_of_pairwise (fun x y _ _ h k=>aAB (by simpa using k) (by simpa using h)) hs (Yj l) (ae.trans (Gt l).symm)
structure eZ where
 path:aM
 id:Int
 data:aM
deriving DecidableEq,Inhabited
def dY(x:eZ):I:=.agg [.str x.path,.int .i64 x.id,.str x.data]
@[go_sem] theorem aRN(x:eZ):bO (dY x)=True:=by simp only[dY,go_sem]
def BM(l:List aB)(dir:Int):List aM:=if cC l=true then pA ((fu l dir).map (·.1))else[]
def xV(l:List aB)(dir:Int):List Int:=dir::nb l dir
def yL(l:List aB)(out:List Int):Nat->Int->aM->List eZ
 |0,_,_=>[]
 |k+1,dir,path=>(pA (((fu l dir).filter fun p=> !out.contains p.2.id).map (·.1))).flatMap fun s=>match hA s (fu l dir)with
  |some n=>⟨path++(47::s),n.id,n.data⟩::(if dy n.id=true then yL l out k n.id (path++(47::s))else[])
  |none=>[]
def nN(l:List aB)(dir:Int):List eZ:=if cC l=true then yL l (xV l dir) (l.length+1) dir []else[]
def wV(p:aM)(l:List eZ):Option eZ:=l.reverse.find? fun x=>decide (x.path=p)
def jW(is:List eZ)(t:eZ):Bool:=match wV t.path is with|some n=> !decide (n.id=t.id)|none=>true
def n6(b4:List eZ)(t:eZ):Bool:=match wV t.path b4 with|some o=>decide (o.id=t.id)&& !decide (o.data=t.data)|none=>false
def vZ(b4 is:List eZ):List dS:=
 ((b4.reverse.filter (jW is)).map fun t=>⟨1,t.path⟩)++((is.filter (jW b4)).map fun t=>⟨2,t.path⟩)++((is.filter (n6 b4)).map fun t=>⟨3,t.path⟩)
def po(e:List dS)(over:Bool)(l:List dS):List dS×Bool:=
 if over=true then(e,true)else if 8-e.length<l.length then(e++l.take (8-e.length)++[⟨9,[]⟩],true)else(e++l,false)
end
section
structure n4 where
 n:Int
 nodes:List aB
deriving DecidableEq,Inhabited
structure jV where
 n:Int
 dir:Int
 bV:List dS
 over:Bool
deriving DecidableEq,Inhabited
structure cb where
 log:hy
 seen:Int
 rep:Int
 cj:List n4
 bN:List jV
 next:Int
deriving DecidableEq,Inhabited
def cU(s:n4):I:=.agg [.int .i64 s.n,.sl false (s.nodes.map aW)]
def bU(w:jV):I:=.agg [.int .i64 w.n,.int .i64 w.dir,.sl false (w.bV.map ct),.bool w.over]
def gf(e n s w:I)(m:cb):I:=.agg [e,n,.int .i64 m.seen,.int .i64 m.rep,s,w,.int .i64 m.next]
def dv(f1 f2 f3 f4:Bool)(m:cb):I:=gf (.sl f1 (m.log.entries.map de)) (.sl f2 (m.log.nodes.map aW)) (.sl f3 (m.cj.map cU)) (.sl f4 (m.bN.map bU)) m
@[go_sem] theorem aRO(x:n4):bO (cU x)=True:=by simp only[cU,go_sem]
@[go_sem] theorem aRP(x:jV):bO (bU x)=True:=by simp only[bU,go_sem]
@[go_sem] theorem aRQ(f1 f2 f3 f4:Bool)(x:cb):bO (dv f1 f2 f3 f4 x)=True:=by simp only[dv,gf,go_sem]
def rH:cb:=⟨⟨[],[]⟩,0,0,[],[],0⟩
def nM(a b:Int)(d:Bool):Int:=if ox a b=true then 128 * a+2 * b+(if d then 1 else 0)else-1
def vk(a b:Int):Bool:=decide (0<=a)&&decide (a<1048576)&&decide (0<=b)&&decide (b<=63)
theorem GA{a b:Int}:vk a b=true↔0<=a∧a<1048576∧0<=b∧b<=63:=by
 simp[vk,and_assoc]
def ov(n:Int)(s:jj):Int:=if ox s.c s.r=true then max n s.c else n
def ui(n:Int)(first:Bool):aM->Option (Int×aM)
 |[]=>none
 |x::r=>if(first&&decide ((x.toNat:Int)=128)||decide (72057594037927935<n))=true then none
  else if(x.toNat:Int)<128 then some (n * 128+x.toNat,r)else ui (n * 128+((x.toNat:Int)-128)) false r
def hb(b:aM):Option (Int×aM):=ui 0 true b
def uj(b:aM):Option (aM×aM):=match hb b with
 |none=>none
 |some (n,r)=>if(r.length:Int)<n then none else some (r.take n.toNat,r.drop n.toNat)
def sU(b:aM):Option (bf×aM):=
 (hb b).bind fun(c,aV)=>(hb aV).bind fun(r,bm)=>(hb bm).bind fun(k,iE)=>(hb iE).bind fun(fq,ir)=>
  if k=1 then(hb ir).bind fun(p,oQ)=>(uj oQ).bind fun(t,qm)=>if dk ⟨⟨c,r⟩,k,fq,p,t,[]⟩=true then some (⟨⟨c,r⟩,k,fq,p,t,[]⟩,qm)else none
  else(uj ir).bind fun(t,qm)=>if dk ⟨⟨c,r⟩,k,fq,0,[],t⟩=true then some (⟨⟨c,r⟩,k,fq,0,[],t⟩,qm)else none
def qH:Nat->aM->Option (List bf)
 |0,b=>if b=[]then some []else none
 |k+1,b=>if b=[]then some []else(sU b).bind fun(o,r)=>(qH k r).map (o::·)
def oB(b:aM):Option (List bf):=qH b.length b
structure cS where
 m:cb
 a:hS
 ops:List bf
deriving DecidableEq,Inhabited
def g8(m:cb):jj×Int:=if vk m.seen m.rep=false then(mV,20)else if(200:Int)<=(m.log.entries.length:Int)then(mV,193)else(⟨m.seen+1,m.rep⟩,0)
def oD(d:cS)(o:bf):Int×cS:=if r0 d.m.log o=0 then(0,{d with m:={d.m with log:=gA d.m.log o},ops:=d.ops++[o]})else(r0 d.m.log o,d)
def ta(d:cS)(o:bf):Int×cS:=
 if(g8 d.m).2=0 then
  (if(oD d {o with at_:=(g8 d.m).1}).1=0 then(0,{(oD d {o with at_:=(g8 d.m).1}).2 with m:={(oD d {o with at_:=(g8 d.m).1}).2.m with seen:=(g8 d.m).1.c}})
  else oD d {o with at_:=(g8 d.m).1})
 else((g8 d.m).2,d)
def pa(m:cb)(h:Int):Option (List aB):=if h=0 then some m.log.nodes else(m.cj.find? fun s=>decide (s.n=h)).map (·.nodes)
def fL(l:List aB)(p:aM):Int×Int:=match gl p with
 |none=>(0,10)
 |some b7=>fg l b7
def jF(l:List aB)(p:aM):Int×aM×Int:=match gl p with
 |none=>(0,[],10)
 |some []=>(0,[],194)
 |some (x::xs)=>if(fg l (x::xs).dropLast).2=0 then(if dy (fg l (x::xs).dropLast).1=true then((fg l (x::xs).dropLast).1,(x::xs).getLast (by simp),0)else(0,[],81))else(0,[],(fg l (x::xs).dropLast).2)
def ze(c:b3)(d:cS):Int×cS:=
 if c.path=[47]then(194,d)else
 if(jF d.m.log.nodes c.path).2.2=0 then
  (if(fp d.m.log.nodes (jF d.m.log.nodes c.path).1 (jF d.m.log.nodes c.path).2.1).isSome=true then(190,d)else
   if(g8 d.m).2=0 then ta d ⟨mV,1,nM (g8 d.m).1.c (g8 d.m).1.r (decide (c.kind=1)),(jF d.m.log.nodes c.path).1,(jF d.m.log.nodes c.path).2.1,[]⟩else((g8 d.m).2,d))
 else((jF d.m.log.nodes c.path).2.2,d)
def A1(c:b3)(d:cS):Int×cS:=
 if(fL d.m.log.nodes c.path).2=0 then(if dy (fL d.m.log.nodes c.path).1=true then(82,d)else ta d ⟨mV,2,(fL d.m.log.nodes c.path).1,0,[],c.data⟩)
 else((fL d.m.log.nodes c.path).2,d)
def BB(c:b3)(d:cS):Int×cS:=match pa d.m c.n with
 |none=>(191,d)
 |some l=>if(fL l c.path).2=0 then(if dy (fL l c.path).1=true then(82,d)else(0,{d with a:={d.a with data:=((xN l (fL l c.path).1).getD sS).data}}))else((fL l c.path).2,d)
def CY(c:b3)(d:cS):Int×cS:=match pa d.m c.n with
 |none=>(191,d)
 |some l=>if(fL l c.path).2=0 then(if dy (fL l c.path).1=true then(0,{d with a:={d.a with names:=BM l (fL l c.path).1}})else(81,d))else((fL l c.path).2,d)
def zf(c:b3)(d:cS):Int×cS:=
 if c.path=[47]∨c.to=[47]then(194,d)else
 if(fL d.m.log.nodes c.path).2=0 then
  (if(jF d.m.log.nodes c.to).2.2=0 then
   (if(fp d.m.log.nodes (jF d.m.log.nodes c.to).1 (jF d.m.log.nodes c.to).2.1).isSome=true then(190,d)else
    if(jF d.m.log.nodes c.to).1=(fL d.m.log.nodes c.path).1∨(nb d.m.log.nodes (jF d.m.log.nodes c.to).1).contains (fL d.m.log.nodes c.path).1=true then(192,d)
    else ta d ⟨mV,1,(fL d.m.log.nodes c.path).1,(jF d.m.log.nodes c.to).1,(jF d.m.log.nodes c.to).2.1,[]⟩)
  else((jF d.m.log.nodes c.to).2.2,d))
 else((fL d.m.log.nodes c.path).2,d)
def AO(c:b3)(d:cS):Int×cS:=
 if c.path=[47]then(194,d)else
 if(fL d.m.log.nodes c.path).2=0 then
  (match gl c.path with
  |some (x::xs)=>ta d ⟨mV,1,(fL d.m.log.nodes c.path).1,2,(x::xs).getLast (by simp),[]⟩
  |_=>(194,d))
 else((fL d.m.log.nodes c.path).2,d)
def Bv(d:cS):Int×cS:=
 if(8:Int)<=(d.m.cj.length:Int)then(193,d)else(0,{d with a:={d.a with n:=d.m.next},m:={d.m with cj:=d.m.cj++[⟨d.m.next,d.m.log.nodes⟩],next:=IntKind.i64.wrap (d.m.next+1)}})
def Bw(c:b3)(d:cS):Int×cS:=
 if(!(d.m.cj.any fun s=>decide (s.n=c.n))&& !(d.m.bN.any fun w=>decide (w.n=c.n)))=true then(191,d)
 else(0,{d with m:={d.m with cj:=d.m.cj.filter (fun s=> !decide (s.n=c.n)),bN:=d.m.bN.filter (fun w=> !decide (w.n=c.n))}})
def DR(c:b3)(d:cS):Int×cS:=
 if(fL d.m.log.nodes c.path).2=0 then
  (if dy (fL d.m.log.nodes c.path).1=true then
   (if(8:Int)<=(d.m.bN.length:Int)then(193,d)else(0,{d with a:={d.a with n:=d.m.next},m:={d.m with bN:=d.m.bN++[⟨d.m.next,(fL d.m.log.nodes c.path).1,[],false⟩],next:=IntKind.i64.wrap (d.m.next+1)}}))
  else(81,d))
 else((fL d.m.log.nodes c.path).2,d)
def xc(n:Int):List jV->List jV
 |[]=>[]
 |w::l=>if w.n=n then{w with bV:=[]}::l else w::xc n l
def Bx(c:b3)(d:cS):Int×cS:=match d.m.bN.find? fun w=>decide (w.n=c.n)with
 |none=>(191,d)
 |some w=>(0,{d with a:={d.a with events:=w.bV},m:={d.m with bN:=xc c.n d.m.bN}})
def gn(g:hy):List bf->List bf->List bf
 |acc,[]=>acc
 |acc,o::l=>gn g (if(!pe g.entries o.at_&& !(acc.any fun f=>decide (f.at_=o.at_)))=true then acc++[o]else acc) l
def nd(d:cS):List bf->Int×cS
 |[]=>(0,d)
 |o::l=>if(oD d o).1=0 then nd (oD d o).2 l else oD d o
def DS(c:b3)(d:cS):Int×cS:=match oB c.data with
 |none=>(50,d)
 |some l=>
  if(200:Int)<(d.m.log.entries.length:Int)+((gn d.m.log [] l).length:Int)then(193,d)else
  if(nd d (gn d.m.log [] l)).1=0 then
   (0,{(nd d (gn d.m.log [] l)).2 with a:={(nd d (gn d.m.log [] l)).2.a with n:=(gn d.m.log [] l).length},m:={(nd d (gn d.m.log [] l)).2.m with seen:=l.foldl (fun n o=>ov n o.at_) d.m.seen}})
  else nd d (gn d.m.log [] l)
def ih(c:b3)(d:cS):Int×cS:=
 if c.kind=1∨c.kind=2 then ze c d else if c.kind=3 then A1 c d else if c.kind=4 then BB c d else if c.kind=5 then zf c d else if c.kind=6 then AO c d
 else if c.kind=7 then CY c d else if c.kind=8 then Bv d else if c.kind=9 then Bw c d else if c.kind=10 then DR c d else if c.kind=11 then Bx c d
 else if c.kind=12 then(0,d)else DS c d
def MS(b4 is:List aB)(w:jV):jV:={w with bV:=(po w.bV w.over (vZ (nN b4 w.dir) (nN is w.dir))).1,over:=(po w.bV w.over (vZ (nN b4 w.dir) (nN is w.dir))).2}
def xJ(b4:List aB)(d:cS):cS:={d with m:={d.m with bN:=d.m.bN.map (MS b4 d.m.log.nodes)}}
end
section
theorem aHG(a b:Int)(d:Bool)(H:ab):aY Tryz.prog 125 [.agg [.int .i64 a,.int .i64 b],.bool d] H (.int .i64 (nM a b d)):=by
 refine bh Tryz.func125 ?_;have al:=AI a b;unfold nM;cases hk:ox a b with
 |false=>
  rw[hk]at al;repeat' first|(refine ad ?_;simp only[go_sem])|refine af ?_|fail
  exact bo (.refl _)
 |true=>
  rw[hk]at al;have h:=uh.1 hk;have c4:IntKind.i64.wrap (128 * a)=128 * a:=cB;have dm:IntKind.i64.wrap (2 * b)=2 * b:=cB;have ee:IntKind.i64.wrap (128 * a+2 * b)=128 * a+2 * b:=cB;have dH:IntKind.i64.wrap (128 * a+2 * b+1)=128 * a+2 * b+1:=cB;cases d with
  |true=>
   refine bW ?_;exact bo (.refl _)
  |false=>
   refine bW ?_;exact bo (.of (by simp))
def MT(a b:Int):I:=if vk a b=true then .a0 [.agg [.int .i64 (a+1),.int .i64 b],.int .i64 0]else .a0 [.agg [.int .i64 0,.int .i64 0],.int .i64 20]
theorem aFM(a b:Int)(H:ab):aY Tryz.prog 172 [.int .i64 a,.int .i64 b] H (MT a b):=by
 refine bh Tryz.func172 ?_;unfold MT;by_cases h1:a<0
 ·have ag:vk a b=false:=by rw[<-vB,GA];omega
  have d1:decide (a<0)=true:=cF h1;rw[ag];refine bW ?_;exact bo (.refl _)
 have d1:decide (a<0)=false:=b8 h1;by_cases h2:1048576<=a
 ·have ag:vk a b=false:=by rw[<-vB,GA];omega
  have d2:decide (1048576<=a)=true:=cF h2;rw[ag];refine bW ?_;exact bo (.refl _)
 have d2:decide (1048576<=a)=false:=b8 h2;have hw:IntKind.i64.wrap (a+1)=a+1:=cB;have al:=AI (a+1) b;cases hk:ox (a+1) b with
 |false=>
  have ag:vk a b=false:=by rw[<-vB,GA];rw[<-vB,uh]at hk;omega
  rw[hk]at al;rw[ag];refine bW ?_;exact bo (.refl _)
 |true=>
  have ag:vk a b=true:=by rw[GA];rw[uh]at hk;omega
  rw[hk]at al;rw[ag];refine bW ?_;exact bo (.refl _)
theorem aD8(n:Int)(s:jj)(f:Bool)(H:ab):aY Tryz.prog 144 [.int .i64 n,.sl f [.agg [.int .i64 s.c,.int .i64 s.r]]] H (.int .i64 (ov n s)):=by
 refine bh Tryz.func144 ?_;obtain⟨a,b⟩:=s;have hw:IntKind.i64.wrap (0+1)=1:=rfl;refine aT ?_;refine tk 2 ?_;unfold qx;repeat' first|(refine ad ?_;simp only[go_sem])|refine af ?_|fail
 have al:=AI a b;cases hk:ox a b with
 |false=>
  rw[hk]at al;repeat' first|(refine ad ?_;simp only[go_sem,hw])|refine af ?_|fail
  exact bo (.of (by unfold ov;rw[hk];rfl))
 |true=>
  rw[hk]at al;repeat' first|(refine ad ?_;simp only[go_sem,hw])|refine af ?_|fail
  exact bo (.of (by unfold ov;rw[hk];rfl))
end
section
theorem MC{l:List aB}{o:bf}(h:refused l o=true):ed l o=l∧j5 l o=Ni:=by rw[ed,j5,aF h,aF h];exact⟨rfl,rfl⟩
theorem aBm{l:List aB}{o:bf}(h:cC l=false):refused l o=true:=by simp[refused,h]
theorem HH(l:List aB)(o:bf):cC (ed l o)=cC l:=by
 cases al:cC l with
 |true=>exact MB o al
 |false=>rw[(MC (o:=o) (aBm al)).1,al]
theorem SI{l:List aB}(hs:cC l=true)(n:aB)(id:Int):e1 (qV l n) id=if id=n.id then some n else e1 l id:=by
 obtain⟨A,B,cf,bK,Cd,Ce,h⟩:=KU hs n.id;rw[MA n Cd Ce];by_cases ia:id=n.id
 ·rw[aF ia];exact Dr (fun x J=>by rw[ia];exact cf x J) ia.symm
 ·rw[az ia];have key:∀m:aB,m.id=n.id->e1 (A++m::B) id=e1 (A++B) id:=by
   intro m hm;unfold e1;rw[List.find?_append,List.find?_append,List.find?_cons,b8 (by rw[hm];exact fun e=>ia e.symm)]
  rcases h with⟨h,_⟩|⟨m,hm,h,_⟩
  ·conv=>rhs;rw[h]
   exact key n rfl
  ·conv=>rhs;rw[h]
   rw[key m hm];exact key n rfl
theorem J1{l:List aB}{o:bf}(hk:o.kind=1):iR l o=⟨(n9 l o).id,o.parent,o.name,o.at_,((e1 l o.node).getD sS).data,((e1 l o.node).getD sS).wrote⟩:=by
 unfold iR n9;rw[aF hk];cases e1 l o.node<;>rfl
theorem XF{l:List aB}{o:bf}(hk:o.kind=2):iR l o=⟨(n9 l o).id,if(e1 l o.node).isSome=true then((e1 l o.node).getD sS).parent else-1,((e1 l o.node).getD sS).name,((e1 l o.node).getD sS).fB,o.data,o.at_⟩:=by
 unfold iR n9;rw[az (by omega)]
 cases e1 l o.node<;>rfl
end
section
def par(l:List aB)(id:Int):Option Int:=match e1 l id with|none=>none|some n=>if n.parent= -1 then none else some n.parent
theorem pF(l:List aB)(k:Nat)(id:Int):kt l (k+1) id=match par l id with|none=>[]|some p=>p::kt l k p:=by
 grind [kt,par,e1,id]
theorem Yn(l:List aB)(k j:Nat)(id:Int):kt l k id=(kt l (k+j) id).take k:=by
 induction k generalizing id with
 |zero=>rfl
 |succ k ay=>
  rw[Nat.succ_add,pF,pF];grind
def kL(l:List aB):Prop:=∃r:Int->Nat,∀x p,par l x=some p->r p<r x
def xQ(l:List aB):Nat->Int->List Int
 |0,_=>[]
 |k+1,id=>match par l id with|none=>[]|some p=>id::xQ l k p
theorem aBn(l:List aB)(k:Nat)(id:Int):(xQ l k id).length=(kt l k id).length:=by
 induction k generalizing id with
 |zero=>rfl
 |succ k ay=>
  rw[pF,xQ];grind
theorem aBo(l:List aB)(k:Nat)(id:Int):∀x∈xQ l k id,x∈l.map aB.id:=by
 induction k generalizing id<;>grind [id,xQ,par,c7,e1,rV,yY,bP]
theorem aAC{l:List aB}{r:Int->Nat}(ax:∀x p,par l x=some p->r p<r x)(k:Nat)(id:Int):(∀x∈xQ l k id,r x<=r id)∧(xQ l k id).Nodup:=by
 induction k generalizing id with
 |zero=>exact⟨fun x J=>(by cases J),List.nodup_nil⟩
 |succ k ay=>
  rw[xQ];grind
theorem Zm{l:List aB}{r:Int->Nat}(ax:∀x p,par l x=some p->r p<r x)(k:Nat)(id:Int):∀x∈kt l k id,r x<r id:=by
 induction k generalizing id with
 |zero=>intro x J;cases J
 |succ k ay=>
  intro x J;rw[pF]at J;grind
theorem Uw{xs ys:List Int}(ag:xs.Nodup)(hs:∀x∈xs,x∈ys):xs.length<=ys.length:=by
 induction xs generalizing ys with
 |nil=>exact bG _
 |cons x xs ay=>
  have J:=hs x (by simp)
  have h:=ay (ys:=ys.erase x) (r1.1 ag).2 (fun z a2=>by
   grind)
  grind
theorem Lz{l:List aB}(h:kL l)(k:Nat)(id:Int):(kt l k id).length<=l.length:=by
 obtain⟨r,ax⟩:=h;have:=Uw (aAC ax k id).2 (aBo l k id);rwa[aBn,cP]at this
theorem CW{l:List aB}(h:kL l){k:Nat}(hk:l.length<=k)(id:Int):kt l k id=g0 l id:=by
 obtain⟨j,rfl⟩:∃j,k=l.length+j:=⟨k-l.length,by omega⟩
 rw[g0,Yn l l.length j id,List.take_of_length_le (Lz h _ _)]
theorem Zn(l:List aB)(k:Nat)(id:Int):∀y∈id::kt l k id,∀p,par l y=some p->p∈kt l (k+1) id:=by
 induction k generalizing id with
 |zero=>
  intro y aG p ae;simp only[kt,c7,jB,jD]at aG;subst aG;rw[pF,ae];simp
 |succ k ay=>
  intro y aG p ae;rcases c7.1 aG with rfl|aG
  ·rw[pF,ae];simp
  ·rw[pF]at aG;rw[pF];cases aS:par l id with
   |none=>rw[aS]at aG;cases aG
   |some q=>
    grind
theorem LV{l:List aB}(h:kL l)(id:Int):∀y∈id::g0 l id,∀p,par l y=some p->p∈g0 l id:=by
 intro y aG p ae;have:=Zn l l.length id y aG p ae;rwa[CW h (pq _)]at this
theorem Q8{l:List aB}{C:Int->Prop}(al:∀y,C y->∀p,par l y=some p->C p)(k:Nat)(id:Int)(hi:C id):∀x∈kt l k id,C x:=by
 induction k generalizing id with
 |zero=>intro x J;cases J
 |succ k ay=>
  intro x J;rw[pF]at J;grind
theorem aGI{l:List aB}(h:kL l)(id:Int):id∉g0 l id:=by
 obtain⟨r,ax⟩:=h;intro J;have:=Zm ax _ _ _ J;omega
theorem Q3{l a:List aB}{C:Int->Prop}(al:∀y,C y->∀p,par l y=some p->C p)(he:∀y,C y->par a y=par l y)(k:Nat)(id:Int)(hi:C id):kt a k id=kt l k id:=by
 induction k generalizing id with
 |zero=>rfl
 |succ k ay=>
  rw[pF,pF,he id hi];grind
theorem Q9{l:List aB}{o:bf}(hs:cC l=true)(ax:refused l o=false)(hk:o.kind=2)(x:Int):par (ed l o) x=par l x:=by
 grind [par,u9,SI,Au,XF,e1]
theorem aBp{l:List aB}{o:bf}(hs:cC l=true)(ax:refused l o=false)(hk:o.kind=1)(ae:o.parent≠ -1)(x:Int):par (ed l o) x=if x=o.node then some o.parent else par l x:=by
 grind [par,u9,SI,Au,J1]
theorem LW{o:bf}(h:dk o=true):o.kind=1∨o.kind=2:=by
 unfold dk at h;simp only[dD,xq,hR]at h;exact h.1.1.1
theorem MD{n:Int}(h:dy n=true):n≠ -1:=by
 intro e;subst e;revert h;decide
theorem Tv{o:bf}(h:dk o=true)(hk:o.kind=1):dy o.parent=true:=by
 grind [dk,xg]
theorem T9{l:List aB}{o:bf}(h:refused l o=false):cC l=true∧dk o=true∧(o.kind=1->sP l o=false):=by
 unfold refused at h;grind
theorem aD9{l:List aB}{o:bf}(h:sP l o=false):o.node∉o.parent::g0 l o.parent:=by
 grind [sP,xl,nm,Hn,c7]
theorem aHh{l:List aB}(o:bf)(hs:cC l=true)(h:kL l):kL (ed l o):=by
 cases ax:refused l o with
 |true=>rw[(MC ax).1];exact h
 |false=>
  obtain⟨-,bl,mj⟩:=T9 ax;rcases LW bl with hk|hk
  ·have bX:=aD9 (mj hk);have ym:=aBp hs ax hk (MD (Tv bl hk));obtain⟨r,ib⟩:=id h;have aSv:∀x p,x≠o.node->par l x=some p->(o.node∈x::g0 l x↔o.node∈p::g0 l p):=by
    intro x p J ae;have eM:=LV h x;have JE:p∈g0 l x:=eM x (by simp) p ae
    constructor
    ·intro hm;rcases c7.1 hm with e|hm
     ·exact absurd e.symm J
     ·have rp:o.node∈kt l (l.length+1) x:=by rw[CW h (pq _)];exact hm
      rw[pF,ae]at rp;exact rp
    ·intro hm;refine lf _ ?_;rcases c7.1 hm with e|hm
     ·rw[e];exact JE
     ·exact Q8 (C:=fun y=>y∈g0 l x) (fun y aG q aS=>eM y (lf _ aG) q aS) _ p JE _ hm
   refine⟨fun x=>if o.node∈x::g0 l x then r x+r o.parent+1 else r x,fun x p aSO=>?_⟩
   grind
  ·obtain⟨r,ib⟩:=h;exact⟨r,fun x p ae=>ib x p (by rw[Q9 hs ax hk]at ae;exact ae)⟩
structure lN (l:List aB):Prop where
 cC:cC l=true
 wf:kL l
 dir:∀n∈l,n.parent= -1∨dy n.parent=true
theorem aEa:lN []:=⟨rfl,⟨fun _=>0,fun x p h=>by cases h⟩,fun n h=>by cases h⟩
theorem SJ{l:List aB}{n x:aB}(h:x∈qV l n):x=n∨x∈l:=by
 grind [qV,mv,cr,eX]
theorem aFN{l:List aB}(o:bf)(h:lN l):lN (ed l o):=by
 refine⟨MB o h.cC,aHh o h.cC h.wf,?_⟩;cases ax:refused l o with
 |true=>rw[(MC ax).1];exact h.dir
 |false=>
  obtain⟨-,bl, -⟩:=T9 ax;intro n ag;rw[u9 ax]at ag;rcases SJ ag with rfl|ag
  ·rcases LW bl with hk|hk
   ·rw[J1 hk];exact .inr (Tv bl hk)
   ·rw[XF hk];simp only;cases an:e1 l o.node with
    |none=>exact .inl rfl
    |some m=>exact h.dir m (rV an)
  ·exact h.dir n ag
theorem aAD(s:List bf){l:List aB}(h:lN l):lN (s.foldl ed l):=by
 induction s generalizing l with
 |nil=>exact h
 |cons o s ay=>exact ay (aFN o h)
theorem H9{l:List aB}(hs:cC l=true){n:aB}(ag:n∈l):e1 l n.id=some n:=by
 have ae:=((yC l).1 hs).2;cases h:e1 l n.id with
 |none=>
  have:=ux.1 h n ag;simp at this
 |some m=>
  have h1:=rV h;have h2:m.id=n.id:=by have:=yY h;simpa using this
  obtain⟨i,hi,rfl⟩:=s5 h1;obtain⟨j,aw,rfl⟩:=s5 ag;rcases Nat.lt_trichotomy i j with q|q|q
  ·have:=xm.1 ae i j hi aw q;omega
  ·subst q;rfl
  ·have:=xm.1 ae j i aw hi q;omega
end
section
theorem Zo{s:aM}{n:aB}(ag:n.name=s){m:List (aM×aB)}(h:∀p∈m,p.2.name=p.1):∀p∈hO s n m,p.2.name=p.1:=by
 induction m<;>grind [hO,dA]
theorem aAE(s:aM)(n:aB)(m:List (aM×aB)):((hO s n m).map (·.1))=if s∈m.map (·.1)then m.map (·.1)else m.map (·.1)++[s]:=by
 induction m<;>grind [hO]
theorem Zp{s:aM}{n:aB}{m:List (aM×aB)}(h:(m.map (·.1)).Nodup):((hO s n m).map (·.1)).Nodup:=by
 rw[aAE];grind
theorem aBq{m:List (aM×aB)}(n:aB)(h:(m.map (·.1)).Nodup∧∀p∈m,p.2.name=p.1):((q0 m n).map (·.1)).Nodup∧∀p∈q0 m n,p.2.name=p.1:=by
 have hs:((hO n.name n m).map (·.1)).Nodup∧∀p∈hO n.name n m,p.2.name=p.1:=⟨Zp h.1,Zo rfl h.2⟩;unfold q0;grind
theorem DT(l:List aB)(dir:Int):((fu l dir).map (·.1)).Nodup∧∀p∈fu l dir,p.2.name=p.1:=by
 suffices h:∀(k:List aB) (m:List (aM×aB)),((m.map (·.1)).Nodup∧∀p∈m,p.2.name=p.1)->((k.foldl (l4 dir) m).map (·.1)).Nodup∧∀p∈k.foldl (l4 dir) m,p.2.name=p.1 from
  h l [] ⟨List.nodup_nil,fun p ae=>by cases ae⟩
 intro k;induction k with
 |nil=>exact fun m h=>h
 |cons x k ay=>
  intro m h;refine ay _ ?_;unfold l4;split
  ·exact aBq x h
  ·exact h
theorem aBr{s:aM}{n:aB}{m:List (aM×aB)}(ag:(m.map (·.1)).Nodup)(h:(s,n)∈m):hA s m=some n:=by
 induction m<;>grind [dn,r1,hA]
theorem aBs{s:aM}{n:aB}{m:List (aM×aB)}(h:hA s m=some n):(s,n)∈m:=by
 induction m<;>grind [hA]
theorem Zq{m:List (aM×aB)}(ag:(m.map (·.1)).Nodup)(p:aM×aB->Bool):((m.filter p).map (·.1)).Nodup:=
 List.Nodup.sublist (List.Sublist.map _ List.filter_sublist) ag
def dep(l:List aB)(x:Int):Nat:=(g0 l x).length
theorem Hr{l:List aB}(h:kL l){x p:Int}(ae:par l x=some p):g0 l x=p::g0 l p:=by
 rw[<-CW h (pq _) x,pF,ae];rfl
theorem vW{l:List aB}(h:kL l){x p:Int}(ae:par l x=some p):dep l x=dep l p+1:=by
 rw[dep,Hr h ae];rfl
theorem zl{l:List aB}(h:kL l)(x:Int):dep l x<=l.length:=Lz h _ _
theorem MU{l:List aB}(h:kL l):∀(j:Nat) {q w:Int},dep l q=j->w∈g0 l q->dep l w<dep l q:=by
 intro j;induction j with
 |zero=>grind [dep,jg]
 |succ j aSP=>
  intro q w aw hw;cases aS:par l q with
  |none=>
   have:g0 l q=[]:=by rw[<-CW h (pq _) q,pF,aS]
   rw[this]at hw;cases hw
  |some r=>
   have hd:=vW h aS;rw[Hr h aS]at hw;grind
theorem aHq{l:List aB}(h:kL l):∀(k:Nat) {x y z:Int},dep l x=k->y∈g0 l x->z∈g0 l x->dep l y=dep l z->y=z:=by
 intro k;induction k with
 |zero=>grind [dep,jg]
 |succ k ay=>
  intro x y z hk aG a2 he;cases ae:par l x with
  |none=>
   have:g0 l x=[]:=by rw[<-CW h (pq _) x,pF,ae]
   rw[this]at aG;cases aG
  |some p=>
   have e:=Hr h ae;have su:dep l p=k:=by have:=vW h ae;omega
   have lt:∀{w:Int},w∈g0 l p->dep l w<dep l p:=fun hw=>MU h _ rfl hw
   grind
theorem BK{l:List aB}(al:cC l=true){dir:Int}(hd:dy dir=true){s:aM}{n:aB}(h:(s,n)∈fu l dir):par l n.id=some dir∧n∈l∧e1 l n.id=some n:=by
 obtain⟨h1,h2⟩:=LB l dir _ h;have an:=H9 al h1;simp only at h1 h2 an;unfold oo at h2;rw[dD,hR]at h2;refine⟨?_,h1,an⟩;rw[par,an];simp only;rw[az (by rw[h2.1];exact MD hd),h2.1]
theorem Ra{l:List aB}{dir:Int}{s:aM}{n:aB}(h:hA s (fu l dir)=some n):(s,n)∈fu l dir:=aBs h
def v7(l:List aB)(out:List Int)(dir:Int):List aM:=pA (((fu l dir).filter fun p=> !out.contains p.2.id).map (·.1))
theorem Yo{l:List aB}(al:cC l=true)(h:kL l)(out:List Int):∀(k j:Nat) (dir:Int) (path:aM),dy dir=true->l.length<k+dep l dir->l.length<j+dep l dir->yL l out k dir path=yL l out j dir path:=by
 intro k;induction k with
 |zero=>intro j dir path _ hk;have:=zl h dir;omega
 |succ k ay=>
  intro j dir path hd hk aw;cases j with
  |zero=>have:=zl h dir;omega
  |succ j=>
   rw[yL,yL];congr 1;funext s;cases hl:hA s (fu l dir)with
   |none=>rfl
   |some n=>
    have ae:=(BK al hd (Ra hl)).1;have Fg:=vW h ae;grind
def pE(l:List aB)(out:List Int)(dir:Int)(path:aM):List eZ:=yL l out (l.length+1) dir path
def oO(l:List aB)(out:List Int)(dir:Int)(path:aM)(s:aM):List eZ:=match hA s (fu l dir)with
 |some n=>⟨path++(47::s),n.id,n.data⟩::(if dy n.id=true then pE l out n.id (path++(47::s))else[])
 |none=>[]
theorem Tw{l:List aB}(al:cC l=true)(h:kL l)(out:List Int){dir:Int}(hd:dy dir=true)(path:aM):pE l out dir path=(v7 l out dir).flatMap (oO l out dir path):=by
 rw[pE,yL];unfold v7;congr 1;funext s;unfold oO;cases hl:hA s (fu l dir)with
 |none=>rfl
 |some n=>
  have ae:=(BK al hd (Ra hl)).1;have Fg:=vW h ae;simp only;by_cases ky:dy n.id=true
  ·rw[aF ky,aF ky,pE,Yo al h out l.length (l.length+1) n.id _ ky (by omega) (by omega)]
  ·rw[az ky,az ky]
theorem Ux{l:List aB}{out:List Int}{dir:Int}{s:aM}(h:s∈v7 l out dir):∃n,hA s (fu l dir)=some n∧(s,n)∈fu l dir∧out.contains n.id=false:=by
 have h1:=(Gt _).mem_iff.1 h;obtain⟨p,ae,rfl⟩:=bP.1 h1;obtain⟨h2,h3⟩:=km.1 ae;exact⟨p.2,aBr (DT l dir).1 h2,h2,by simpa using h3⟩
theorem aEb(l:List aB)(out:List Int)(dir:Int):(v7 l out dir).Nodup:=(Gt _).nodup_iff.2 (Zq (DT l dir).1 _)
theorem aHr{l:List aB}(al:cC l=true)(h:kL l)(out:List Int):∀(k:Nat) (dir:Int) (path:aM),dy dir=true->l.length<k+dep l dir->
  ((pE l out dir path).map (·.id)).Nodup∧∀x∈(pE l out dir path).map (·.id),x∈l.map aB.id∧dir∈g0 l x:=by
 intro k;induction k with
 |zero=>intro dir path _ hk;have:=zl h dir;omega
 |succ k ay=>
  intro dir path hd hk;rw[Tw al h out hd]
  -- the piece of one name
  have piece:∀s∈v7 l out dir,∃n,(s,n)∈fu l dir∧((oO l out dir path s).map (·.id)).Nodup∧
    ∀x∈(oO l out dir path s).map (·.id),x∈l.map aB.id∧dir∈g0 l x∧(x=n.id∨n.id∈g0 l x):=by
   intro s hs;obtain⟨n,hl,hm,_⟩:=Ux hs;obtain⟨ae,bL,_⟩:=BK al hd hm;have Fg:=vW h ae;have bS:n.id∈l.map aB.id:=bP.2 ⟨n,bL,rfl⟩;have c3:dir∈g0 l n.id:=by rw[Hr h ae];simp
   refine⟨n,hm,?_⟩;unfold oO;rw[hl];simp only;by_cases ky:dy n.id=true
   ·rw[aF ky];obtain⟨i1,i2⟩:=ay n.id (path++(47::s)) ky (by omega)
    refine⟨?_,fun x J=>?_⟩
    ·rw[dn,r1];refine⟨fun J=>?_,i1⟩
     exact aGI h _ (i2 _ J).2
    ·rw[dn,c7]at J;rcases J with rfl|J
     ·exact⟨bS,c3,.inl rfl⟩
     ·obtain⟨oq,kD⟩:=i2 x J;have:dir∈g0 l x:=LV h x n.id (lf _ kD) dir ae;exact⟨oq,this,.inr kD⟩
   ·rw[az ky];exact⟨by simp,fun x J=>by simp only[dn,im,dA]at J;subst J;exact⟨bS,c3,.inl rfl⟩⟩
  have aIa:∀s∈v7 l out dir,∀t∈v7 l out dir,s≠t->∀x∈(oO l out dir path s).map (·.id),x∉(oO l out dir path t).map (·.id):=by
   intro s hs t aj aP x J aG;obtain⟨n,hm, -,k1⟩:=piece s hs;obtain⟨m,CC, -,k2⟩:=piece t aj;obtain⟨-, -,aQ⟩:=k1 x J;obtain⟨-, -,aO⟩:=k2 x aG;obtain⟨cK,cu,f1⟩:=BK al hd hm;obtain⟨dc,dC,f2⟩:=BK al hd CC;have d1:=vW h cK;have d2:=vW h dc;have ia:n.id≠m.id:=fun e=>by
    rw[e,f2]at f1;cases f1;have a:=(DT l dir).2 _ hm;have b:=(DT l dir).2 _ CC;exact aP (a.symm.trans b)
   rcases aQ with rfl|aQ<;>rcases aO with au|aO
   ·exact ia au
   ·have:=MU h _ rfl aO;omega
   ·subst au;have:=MU h _ rfl aQ;omega
   ·exact ia (aHq h _ rfl aQ aO (by omega))
  refine⟨?_,fun x J=>?_⟩
  ·rw[List.map_flatMap];rw[List.nodup_iff_pairwise_ne,List.pairwise_flatMap];refine⟨fun s hs=>?_,?_⟩
   ·obtain⟨_,_,k1,_⟩:=piece s hs;exact k1
   ·have fz:=aEb l out dir;rw[List.nodup_iff_pairwise_ne]at fz;exact(List.Pairwise.and_mem.1 fz).imp fun{s t} ⟨hs,aj,aP⟩ x J y aG e=>by subst e;exact aIa s hs t aj aP x J aG
  ·rw[List.map_flatMap,rZ]at J;obtain⟨s,hs,J⟩:=J;obtain⟨_,_,_,k1⟩:=piece s hs;exact⟨(k1 x J).1,(k1 x J).2.1⟩
theorem M8{l:List aB}(al:cC l=true)(h:kL l)(out:List Int)(dir:Int)(path:aM)(hd:dy dir=true):(pE l out dir path).length<=l.length:=by
 obtain⟨h1,h2⟩:=aHr al h out (l.length+1) dir path hd (by omega)
 have:=Uw h1 (fun x J=>(h2 x J).1)
 simpa using this
end
section
def j4(c:b3)(k:Int)(h:List Int)(d e:Bool):ba:={nU c with at_:=k,has:=h,done:=d,ended:=e}
theorem aHi{l:List aB}(lA:lN l){dir:Int}{s:aM}{n:aB}(hd:dy dir=true)(h:fp l dir s=some n):n.id≠dir∧xN l n.id=some n:=by
 obtain⟨al,hm,ae⟩:=Da h;have an:=H9 al hm;refine⟨fun e=>?_,by rw[xN,aF al];exact an⟩
 obtain⟨r,ax⟩:=lA.wf;have ym:par l n.id=some dir:=by
  rw[par,an];simp only[ae];rw[az (MD hd)]
 have:=ax _ _ ym;rw[e]at this;omega
theorem Uz{has:List Int}(ps:List Int)(rest:List Int)(h:∀y∈ps,y∈has):mW has (ps++rest)=mW has rest:=by
 induction ps with
 |nil=>rfl
 |cons p ps ay=>rw[gi,Sn (by simp;exact h p (by simp))];exact ay fun y aG=>h y (by simp[aG])
theorem RM{c:b3}(h:fC c=true):gR c=false:=by
 unfold fC at h;simp only[xq,hR]at h;unfold gR;rcases h with(h|h)|h<;>rw[h]<;>rfl
theorem aHT{bc:List Int}{o:Option Int}(h:bc.Nodup):(jw bc o).Nodup:=by
 unfold jw;split
 ·split
  ·exact h
  ·rename_i d hd;rw[List.nodup_append];refine⟨h,by simp,fun a aD b aa=>?_⟩
   simp at aa hd;subst aa;exact fun e=>hd (e▸aD)
 ·exact h
theorem aHS{bc:List Int}{o:Option Int}{x:Int}(h:x∈jw bc o):x∈bc∨o=some x:=by
 unfold jw at h;split at h
 ·split at h
  ·exact .inl h
  ·simp at h;rcases h with h|h
   ·exact .inl h
   ·exact .inr (by rw[h])
 ·exact .inl h
theorem aH9{l:List aB}{p:aM}{d:Int}(h:fZ l p=some d):dy d=true:=by
 unfold fZ at h;split at h
 ·split at h
  ·rename_i q;cases h;exact q.2
  ·cases h
 ·cases h
theorem aK0(l:List aB)(c:b3):(xf l c).Nodup∧∀x∈xf l c,∃p∈mN c,fZ l p=some x:=by
 suffices h:∀(ps:List aM) (bc:List Int),bc.Nodup->(∀x∈bc,∃p∈mN c,fZ l p=some x)->(∀p∈ps,p∈mN c)->(ps.foldl (fun bc p=>jw bc (fZ l p)) bc).Nodup∧∀x∈ps.foldl (fun bc p=>jw bc (fZ l p)) bc,∃p∈mN c,fZ l p=some x from
  h (mN c) [] List.nodup_nil (fun x J=>by cases J) (fun p ae=>ae)
 intro ps;induction ps with
 |nil=>intro bc h1 h2 _;exact⟨h1,h2⟩
 |cons p ps ay=>
  intro bc h1 h2 h3;refine ay _ (aHT h1) (fun x J=>?_) (fun q aS=>h3 q (by simp[aS]))
  rcases aHS J with J|J
  ·exact h2 x J
  ·exact⟨p,h3 p (by simp),J⟩
theorem Nb(l:List aB)(bc:List Int):(nc l bc).Perm bc:=by
 unfold nc;split
 ·split
  ·exact .swap _ _ _
  ·exact .refl _
 ·exact .refl _
theorem M9(l:List aB)(c:b3):(ij l c).Nodup:=by
 obtain⟨h1,h2⟩:=aK0 l c;rw[ij,r1];refine⟨fun h=>?_,(Nb l _).nodup_iff.2 h1⟩
 obtain⟨p,_,ae⟩:=h2 1 ((Nb l _).mem_iff.1 h);have:=aH9 ae;revert this;decide
end
end Go.Proofs.YthafnbmdmfoobaaGreatDoor
