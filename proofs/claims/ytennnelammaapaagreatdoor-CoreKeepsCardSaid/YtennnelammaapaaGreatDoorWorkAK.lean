/- What the functions of this seat answer (11 of 38). No condition. -/
import Derived.Test.YtennnelammaapaaGreatDoorWorkAJ
import Derived.Lib.MapLaws
import Derived.Sort.AssemblyPlain
set_option linter.unusedSimpArgs false
set_option linter.unusedVariables false
set_option linter.unusedSectionVars false
set_option maxRecDepth 100000
set_option maxHeartbeats 16000000
namespace Go.Proofs.YtennnelammaapaaGreatDoor
section
theorem cJ(H:AHeap)(i:Nat)(b:ABlk):(aB H i b).length=H.length:=by simp[aB]
theorem aY{H:AHeap}{i j:Nat}(h:i≠j)(b:ABlk):hget (aB H i b) j=hget H j:=by
 simp only[hget,aB,zAh];rw[zAA h]
theorem gW{H:AHeap}{i:Nat}(h:i<H.length)(b:ABlk):hget (aB H i b) i=b:=by
 simp only[hget,aB,zAh];rw[zAU h];rfl
theorem lT{G L:AHeap}{n k:Nat}(h:G.length=n):hget (G++L) (n+k)=L.getD k .gone:=by subst h;exact qZ _ _ _
theorem iS{G L:AHeap}{n:Nat}(h:G.length=n):hget (G++L) n=L.getD 0 .gone:=by subst h;exact eZ _ _
theorem vQ{G L:AHeap}{n k:Nat}(h:G.length=n)(b:ABlk):aB (G++L) (n+k) b=G++L.set k b:=by subst h;exact aAP _ _ _ _
theorem aA7{G L:AHeap}{n:Nat}(h:G.length=n)(b:ABlk):aB (G++L) n b=G++L.set 0 b:=by subst h;exact aBZ _ _ _
theorem aD6(es:List Ent)(e:Ent):((es++[e]).map iB).flatMap AV.cells=(es.map iB).flatMap AV.cells++(iB e).cells:=by
 rw[zA9,List.flatMap_append];simp
theorem aSb(b:Bool)(es:List Ent)(n:List Nd)(o:Opn)(hs:OpS o)(hl:n.length≤1000000000)(he:es.length≤1000000)(H:AHeap)(i j:Nat)(hij:i≠j)
  (hi:hget H i=.cells 0 [.sl b (n.map ndA)]) (hj:hget H j=.cells 0 [.sl true (es.map iB)]):
  ACalls Tryz.prog 212 [opA o,.ref i 0 0,.ref j 0 0] H (fun x H'=>x=.tup []∧
   ∃b0 b1,H'=aB (aB H i (.cells 0 [.sl false ((doL n o).map ndA)])) j (.cells 0 [.osl 17 (H.length+2) 1 0 (es.length+1) (es.length+1)])++([b0,b1,.cells 1 (((es++[(⟨o,xN n o⟩:Ent)]).map iB).flatMap AV.cells)]:AHeap)):=by
 refine aW Tryz.func212 ?_;have hdo:=aVE b n o hs hl;have hi2:=fun L=>aD hi trivial L
 have hi3:i<H.length:=aV hi trivial;have hj3:j<H.length:=aV hj trivial;have f1:=fun L b=>bD hi3 L b
 have f2:=fun b=>cJ H i b
 have f3:∀L b k,hget (aB H i b++L) (H.length+k)=L.getD k .gone:=fun L b k=>lT (cJ H i b)
 have f30:∀L b,hget (aB H i b++L) H.length=L.getD 0 .gone:=fun L b=>iS (cJ H i b)
 have f4:∀L b k b',aB (aB H i b++L) (H.length+k) b'=aB H i b++L.set k b':=fun L b k b'=>vQ (cJ H i b) b'
 have f5:∀L b,hget (aB H i b++L) j=.cells 0 [.sl true (es.map iB)]:=fun L b=>aD ((aY hij b).trans hj) trivial L
 have f6:∀L b b',aB (aB H i b++L) j b'=aB (aB H i b) j b'++L:=fun L b b'=>bD (by rw[cJ];exact hj3) L b'
 have ec:=aD6 es ⟨o,xN n o⟩;have hcl:=iE es;simp only[opA,unA]at hdo ⊢;repeat' first|(refine gS ?_;simp only[go_sem,hi,hj,hi2,f1,f2,f3,f30,f4,f5,f6,hcl])|refine gA ?_|(refine gD ?_ ?_<;>intro h<;>try exact aA h)|fail
 rw[ec];exact⟨⟨.inr trivial,fun e he=>by rw[he];rfl,by omega⟩,_,_,rfl⟩
theorem aSc(b:Bool)(es:List Ent)(n:List Nd)(o:Opn)(hs:OpS o)(hl:n.length≤1000000000)(he:es.length≤1000000)(H:AHeap)(i j k v:Nat)(hij:i≠j)(hik:i≠k)(hjk:j≠k)(hv:v≠0)
  (hi:hget H i=.cells 0 [.sl b (n.map ndA)]) (hj:hget H j=.cells 0 [.osl 17 k v 0 es.length es.length]) (hk:hget H k=.cells v ((es.map iB).flatMap AV.cells)):
  ACalls Tryz.prog 212 [opA o,.ref i 0 0,.ref j 0 0] H (fun x H'=>x=.tup []∧
   ∃b0 b1,H'=aB (aB (aB H i (.cells 0 [.sl false ((doL n o).map ndA)])) k (.cells (v+1) (((es++[(⟨o,xN n o⟩:Ent)]).map iB).flatMap AV.cells))) j (.cells 0 [.osl 17 k (v+1) 0 (es.length+1) (es.length+1)])++([b0,b1]:AHeap)):=by
 refine aW Tryz.func212 ?_;have hdo:=aVE b n o hs hl;have hi2:=fun L=>aD hi trivial L
 have hi3:i<H.length:=aV hi trivial;have hj3:j<H.length:=aV hj trivial;have hk3:k<H.length:=aV hk trivial;have f1:=fun L b=>bD hi3 L b
 have f2:=fun b=>cJ H i b
 have f3:∀L b k,hget (aB H i b++L) (H.length+k)=L.getD k .gone:=fun L b k=>lT (cJ H i b)
 have f30:∀L b,hget (aB H i b++L) H.length=L.getD 0 .gone:=fun L b=>iS (cJ H i b)
 have f4:∀L b k b',aB (aB H i b++L) (H.length+k) b'=aB H i b++L.set k b':=fun L b k b'=>vQ (cJ H i b) b'
 have f5:∀L b,hget (aB H i b++L) j=.cells 0 [.osl 17 k v 0 es.length es.length]:=fun L b=>aD ((aY hij b).trans hj) trivial L
 have f6:∀L b,hget (aB H i b++L) k=.cells v ((es.map iB).flatMap AV.cells):=fun L b=>aD ((aY hik b).trans hk) trivial L
 have f7:∀L b b',aB (aB H i b++L) k b'=aB (aB H i b) k b'++L:=fun L b b'=>bD (by rw[cJ];exact hk3) L b'
 have f8:∀L b b' b'',aB (aB (aB H i b) k b'++L) j b''=aB (aB (aB H i b) k b') j b''++L:=fun L b b' b''=>bD (by rw[cJ,cJ];exact hj3) L b''
 have f9:∀L b b',hget (aB (aB H i b) k b'++L) j=.cells 0 [.osl 17 k v 0 es.length es.length]:=fun L b b'=>aD ((aY hjk.symm b').trans ((aY hij b).trans hj)) trivial L
 have ec:=aD6 es ⟨o,xN n o⟩;have hcl:=iE es;have hfl:(List.flatMap AV.cells (es.map iB)).length=es.length * 17:=(rB (iW es)).trans (by rw[zAn])
 simp only[opA,unA]at hdo ⊢;repeat' first|(refine gS ?_;simp only[go_sem,hi,hj,hi2,f1,f2,f3,f30,f4,f5,f6,f7,f8,f9,hcl,hfl,hv])|refine gA ?_|(refine gD ?_ ?_<;>intro h<;>try exact aA h)|fail
 rw[ec];exact⟨⟨fun e he=>by rw[he];rfl,by omega⟩,_,_,rfl⟩
end
section
variable {P:Program}
def aFr{ι:Type}(F:ι→AF)(Hp:ι→AHeap)(pre:ι→Prop)(Q:bL):bL
 |.normal,α,H=>∃y,pre y∧aDJ (F y) α∧H=Hp y
 |e,α,H=>Q e α H
section
variable {ι:Type} (F:ι→AF) (Hp:ι→AHeap) (pre:ι→Prop) (Q:bL) (α:AF) (H:AHeap)
@[go_sem] theorem aQt:aFr F Hp pre Q .normal α H=∃y,pre y∧aDJ (F y) α∧H=Hp y:=rfl
@[go_sem] theorem aUm(i:Nat):aFr F Hp pre Q (.exit i) α H=Q (.exit i) α H:=rfl
@[go_sem] theorem aVG:aFr F Hp pre Q .ret α H=Q .ret α H:=rfl
end
theorem xR{N:Nat}{x y:Code}{Q:bL}{α:AF}{H:AHeap}{ι:Type}(F:ι→AF)(Hp:ι→AHeap)(pre:ι→Prop)(h1:aw P N x (aFr F Hp pre Q) α H)(h2:∀i,pre i→aw P N y Q (F i) (Hp i)):aw P N (.seq x y) Q α H:=by
 refine pF (aAi h1 fun e α' H' h=>?_)
 cases e with
 |normal=>
  obtain⟨i,hp,hs,rfl⟩:=h;exact sV (h2 i hp) (kJ hs)
 |_=>exact h
theorem gB{N id:Nat}{x y:Code}{Q:bL}{α:AF}{H:AHeap}{ι:Type}(F:ι→AF)(Hp:ι→AHeap)(pre:ι→Prop)(h1:aw P N x (pG id (aFr F Hp pre Q)) α H)(h2:∀i,pre i→aw P N y Q (F i) (Hp i)):aw P N x (pG id (aAE P N y Q)) α H:=by
 refine aAi h1 fun e α' H' h=>?_
 have key:aFr F Hp pre Q .normal α' H'→aAE P N y Q .normal α' H':=fun⟨i,hp,hs,hH⟩=>by subst hH;exact sV (h2 i hp) (kJ hs)
 cases e with
 |normal=>exact key h
 |exit i=>
  simp only[pG]at h ⊢;by_cases hi:i==id
  ·rw[hi,cond_true]at h ⊢;exact key h
  ·have hi':(i==id)=false:=by simpa using hi
   rw[hi',zCn]at h ⊢;exact h
 |_=>exact h
end
section
def iF:List Pl:=[.pure 0,.pure 0,.pure 0,.pure 0,.pure 0,.eff [true,true,true,true,true],.eff [true,true,true,false,false],.free]
attribute [go_sem] iF
def vR(o:Opn):List AV:=[.int .i64 o.at_.c,.int .i64 o.at_.r,.int .i64 o.kind,.int .i64 o.node,.int .i64 o.parent,.str o.name,.str o.data]
def aSd(g:Lg)(e:Int):AV:=.tup [lgA g,.int .i64 e]
def aXE(l:List Ent):Prop:=∀e∈l,OpS e.op
theorem aD7{n:Nat}{H:AHeap}:∀(i:Nat) (x y:AV),([]:List AV)[i]?=some x→([]:List AV)[i]?=some y→Frz n H x y:=fun _ _ _ h=>by simp at h
theorem sZ{n:Nat}{H:AHeap}{a b:AV}{cs ds:List AV}(h:Frz n H a b)(hs:∀(i:Nat) (x y:AV),cs[i]?=some x→ds[i]?=some y→Frz n H x y):∀(i:Nat) (x y:AV),(a::cs)[i]?=some x→(b::ds)[i]?=some y→Frz n H x y
 |0,x,y,hx,hy=>by simp at hx hy;subst hx;subst hy;exact h
 |i+1,x,y,hx,hy=>hs i x y (by simpa using hx) (by simpa using hy)
theorem aQu{H M L G X:AHeap}(hG:H++(M++L)=G):G++X=H++(M++(L++X)):=by rw[←hG];simp only[zAr]
theorem eX{H X:AHeap}{i:Nat}(h:∃M,X=H++M)(hi:H.length≤i)(b:ABlk):∃M,aB X i b=H++M:=by
 obtain⟨M,rfl⟩:=h;obtain⟨k,rfl⟩:∃k,i=H.length+k:=⟨i-H.length,by omega⟩
 exact⟨M.set k b,aAP _ _ _ _⟩
theorem aAr{H X:AHeap}(h:∃M,X=H++M)(L:AHeap):∃M,X++L=H++M:=by
 obtain⟨M,rfl⟩:=h;exact⟨M++L,zAr ..⟩
theorem aSe(b1 b2:Bool)(g:Lg)(o:Opn)(hs:OpS o)(hes:aXE g.entries)(h2:g.nodes.length≤1000000)(h1:g.entries.length≤1000000)(H:AHeap):bH Tryz.prog 193 [lgF b1 b2 g,opA o] H (aSd (fJ g o) (xP g o)):=by
 have hok:=aA4 o hs;have hsm:=aN6 b1 b2 g (by omega) (by omega)
 have hha:=aQs b1 b2 g o.at_;refine fO Tryz.func193 ?_;have hP:=pT [(7,iF)];simp only[opA,lgA,lgF,stA,aSd]at hok hsm hha ⊢;cases ho:opOk o with
 |false=>
  rw[fJ,zAl ho,xP,zAl ho];refine hH ?_;exact dY (.refl _)
 |true=>
  cases hh:lO g.entries o.at_ with
  |true=>
   rw[fJ,zAe (by rw[ho];decide),zAl hh,xP,zAe (by rw[ho];decide),zAl hh]
   refine hH ?_;exact dY (.refl _)
  |false=>
   by_cases hm:(200:Int)≤(g.entries.length:Int)
   ·rw[fJ,zAe (by rw[ho];decide),zAe (by rw[hh];decide),zAl hm,xP,zAe (by rw[ho];decide),zAe (by rw[hh];decide),zAl hm]
    refine hH ?_;exact dY (.refl _)
   ·rw[fJ,zAe (by rw[ho];decide),zAe (by rw[hh];decide),zAe hm,xP,zAe (by rw[ho];decide),zAe (by rw[hh];decide),zAe hm]
    refine hH ?_;have hbk:=fun l e u hl=>aSa false l e u hl
    simp only[opA,unA]at hbk;refine aCL (H.length+3) [.sl false (g.nodes.map ndA)] (v:=0) (cs:=[.sl b2 (g.nodes.map ndA)]) (by simp only[go_sem]) rfl (aP (.sl _ _) dE) ?_
    simp only[go_sem];refine gB (ι:=Nat×List Nd×AHeap)
     (fun x=>[(2,.ref H.length 0 0),(3,.ref (H.length+1) 0 0),(4,.ref (H.length+2) 0 0),(6,.ref (H.length+3) 0 0),(7,.int .i64 ((g.entries.length-x.1:Nat):Int))])
     (fun x=>H++([.cells 0 [.sl b1 (g.entries.map iB),.sl b2 (g.nodes.map ndA)],.cells 0 (vR o),.cells 0 [.sl true [],.sl true []],.cells 0 [.sl false (x.2.1.map ndA)]]++x.2.2))
     (fun x=>x.1≤g.entries.length∧x.2.1.length≤g.nodes.length+x.1∧dZ o.at_ g.entries.reverse g.nodes=(x.1,x.2.1)) ?_ ?_
    ·refine aI (ι:=Nat×List Nd×AHeap)
      (fun x=>[(2,.ref H.length 0 0),(3,.ref (H.length+1) 0 0),(4,.ref (H.length+2) 0 0),(6,.ref (H.length+3) 0 0),(7,.int .i64 ((g.entries.length-x.1:Nat):Int)),(41,.int .i64 g.entries.length),(42,.int .i64 x.1)])
      (fun x=>H++([.cells 0 [.sl b1 (g.entries.map iB),.sl b2 (g.nodes.map ndA)],.cells 0 (vR o),.cells 0 [.sl true [],.sl true []],.cells 0 [.sl false (x.2.1.map ndA)]]++x.2.2))
      (fun x=>x.1≤g.entries.length∧x.2.1.length≤g.nodes.length+x.1∧dZ o.at_ g.entries.reverse g.nodes=(x.1+(dZ o.at_ (g.entries.reverse.drop x.1) x.2.1).1,(dZ o.at_ (g.entries.reverse.drop x.1) x.2.1).2)) (fun x=>g.entries.length-x.1) (0,g.nodes,[]) ⟨zAo _,zAf _,by simp⟩ ?_ (by simp[vR]) ?_
     ·simp[go_sem]
     ·rintro⟨i,n,L⟩ ⟨hi,hn,he⟩;simp only[vR]at hi hn he ⊢;generalize hG:H++([ABlk.cells 0 [AV.sl b1 (g.entries.map iB),.sl b2 (g.nodes.map ndA)],.cells 0 [.int .i64 o.at_.c,.int .i64 o.at_.r,.int .i64 o.kind,.int .i64 o.node,.int .i64 o.parent,.str o.name,.str o.data],.cells 0 [.sl true [],.sl true []],.cells 0 [.sl false (n.map ndA)]]++L)=G;have hlG:H.length+3<G.length:=by rw[←hG];simp
      have q0:hget G H.length=.cells 0 [AV.sl b1 (g.entries.map iB),.sl b2 (g.nodes.map ndA)]:=by rw[←hG];simp only[go_sem]
      have q1:hget G (H.length+1)=.cells 0 [.int .i64 o.at_.c,.int .i64 o.at_.r,.int .i64 o.kind,.int .i64 o.node,.int .i64 o.parent,.str o.name,.str o.data]:=by rw[←hG];simp only[go_sem]
      have q3:hget G (H.length+3)=.cells 0 [.sl false (n.map ndA)]:=by rw[←hG];simp only[go_sem]
      have q0':=fun M=>aD q0 trivial M
      have q1':=fun M=>aD q1 trivial M
      have q3':=fun M=>aD q3 trivial M
      have qs:=fun M b=>bD hlG M b
      have qn:∀b,aB G (H.length+3) b=H++([ABlk.cells 0 [AV.sl b1 (g.entries.map iB),.sl b2 (g.nodes.map ndA)],.cells 0 [.int .i64 o.at_.c,.int .i64 o.at_.r,.int .i64 o.kind,.int .i64 o.node,.int .i64 o.parent,.str o.name,.str o.data],.cells 0 [.sl true [],.sl true []],b]++L):=fun b=>by rw[←hG];simp only[go_sem]
      by_cases hlt:i<g.entries.length
      ·have hix:g.entries.length-1-i<g.entries.length:=by omega
       have hp:=aN iB hix;have e1:IntKind.i64.wrap (IntKind.i64.wrap ((g.entries.length:Int)-1)-(i:Int))=((g.entries.length-1-i:Nat):Int):=by
        rw[wrap_i64 (n:=(g.entries.length:Int)-1) (by omega) (by omega),wI];omega
       have hdr:g.entries.reverse.drop i=g.entries[g.entries.length-1-i]::g.entries.reverse.drop (i+1):=by
        rw[zAi (by simpa using hlt)]
        congr 1;rw[List.getElem_reverse]
       rw[hdr,dZ]at he;repeat' first|((first|refine gQ (aFk _ _ _ _) ?_|refine aZ (hbk _ _ _ (by first|assumption|decide|omega|(simp_all;done)|(simp_all;omega)) _) (cO) ?_|refine bA (hbk _ _ _ (by first|assumption|decide|omega|(simp_all;done)|(simp_all;omega)) _) (cO) ?_|refine bB (fun _=>hbk _ _ _ (by first|assumption|decide|omega|(simp_all;done)|(simp_all;omega)) _) (cO) ?_|refine mx [7] iF ?_|refine gS ?_);simp only[go_sem,hp,iB,e1,q0,q1,q3,q0',q1',q3',qs])|refine gA ?_|(refine gD ?_ ?_<;>intro h<;>try exact aA h)|fail
       ·have hl0:¬fU o.at_ g.entries[g.entries.length-1-i].op.at_=true:=by
         rw[zBB];unfold fU;simpa using h
        rw[zAe hl0]at he;exact⟨(i,n,L++[_]),⟨hi,hn,by rw[he];rfl⟩,rfl,aQu hG⟩
       ·have hl0:fU o.at_ g.entries[g.entries.length-1-i].op.at_=true:=by unfold fU;simpa using h
        rw[zAl hl0]at he;have hbl:=aCf n g.entries[g.entries.length-1-i].op g.entries[g.entries.length-1-i].undo;refine⟨(i+1,oQ n g.entries[g.entries.length-1-i].op g.entries[g.entries.length-1-i].undo,L++[_]),⟨hlt,by simp only;omega,by rw[he];simp only[Prod.mk.injEq,and_true];omega⟩,by simp only;omega,⟨zAx _ ?_,zAx _ (aS hlt (by omega))⟩,aQu (qn _).symm⟩
        simp only;rw[wI];omega
      ·repeat' first|((first|refine mx [7] iF ?_|refine gS ?_);simp only[go_sem,q0,q1,q3,hlt])|refine gA ?_|(refine gD ?_ ?_<;>intro h<;>try exact aA h)|fail
       have hil:i=g.entries.length:=by omega
       have hd0:g.entries.reverse.drop i=[]:=List.drop_of_length_le (by simp;omega)
       rw[hd0]at he;exact⟨(i,n,L),⟨hi,hn,by rw[he];rfl⟩,rfl,by rw[←hG];simp only[go_sem]⟩
    ·rintro⟨c,n,L⟩ ⟨hc,hn,he⟩;simp only[vR]at hc hn he ⊢;rw[he];simp only;generalize hG:H++([ABlk.cells 0 [AV.sl b1 (g.entries.map iB),.sl b2 (g.nodes.map ndA)],.cells 0 [.int .i64 o.at_.c,.int .i64 o.at_.r,.int .i64 o.kind,.int .i64 o.node,.int .i64 o.parent,.str o.name,.str o.data],.cells 0 [.sl true [],.sl true []],.cells 0 [.sl false (n.map ndA)]]++L)=G;have hlG:H.length+3<G.length:=by rw[←hG];simp
     have hpG:∃M,G=H++M:=⟨_,hG.symm⟩;have q0:hget G H.length=.cells 0 [AV.sl b1 (g.entries.map iB),.sl b2 (g.nodes.map ndA)]:=by rw[←hG];simp only[go_sem]
     have q1:hget G (H.length+1)=.cells 0 [.int .i64 o.at_.c,.int .i64 o.at_.r,.int .i64 o.kind,.int .i64 o.node,.int .i64 o.parent,.str o.name,.str o.data]:=by rw[←hG];simp only[go_sem]
     have q2:hget G (H.length+2)=.cells 0 [.sl true [],.sl true []]:=by rw[←hG];simp only[go_sem]
     have q3:hget G (H.length+3)=.cells 0 [.sl false (n.map ndA)]:=by rw[←hG];simp only[go_sem]
     have q0':=fun M=>aD q0 trivial M
     have q1':=fun M=>aD q1 trivial M
     have q3':=fun M=>aD q3 trivial M
     have t1:List.take (g.entries.length-c) (List.map iB g.entries)=List.map iB (g.entries.take (g.entries.length-c)):=zBG.symm;have t2:List.drop (g.entries.length-c) (List.map iB g.entries)=List.map iB (g.entries.drop (g.entries.length-c)):=zCI.symm;have ha1:=aSb false (g.entries.take (g.entries.length-c)) n o hs (by omega) (by simp;omega) (G++[.cells 0 [.sl true ((g.entries.take (g.entries.length-c)).map iB)]]) (H.length+3) G.length (by omega) (aD q3 trivial _) (eZ _ _)
     simp only[opA]at ha1;refine hH ?_;refine gR ha1 (cO) ?_;rintro x H' ⟨rfl,c0,c1,hH'⟩;simp only[go_sem];have hl1:(G++[ABlk.cells 0 [AV.sl true ((g.entries.take (g.entries.length-c)).map iB)]]).length=G.length+1:=by simp
     have hdl:=aCS n o;have lt1:(g.entries.take (g.entries.length-c)).length=g.entries.length-c:=by rw[zAL];omega
     rw[hl1,lt1]at hH';have r0:hget H' H.length=.cells 0 [AV.sl b1 (g.entries.map iB),.sl b2 (g.nodes.map ndA)]:=by
      rw[hH'];exact aD ((aY (by omega) _).trans ((aY (by omega) _).trans (q0' _))) trivial _
     have r2:hget H' (H.length+2)=.cells 0 [.sl true [],.sl true []]:=by
      rw[hH'];exact aD ((aY (by omega) _).trans ((aY (by omega) _).trans (aD q2 trivial _))) trivial _
     have r3:hget H' (H.length+3)=.cells 0 [.sl false ((doL n o).map ndA)]:=by
      rw[hH'];exact aD (b:=.cells 0 [.sl false ((doL n o).map ndA)]) ((aY (by omega) _).trans (gW (by rw[hl1];omega) _)) trivial _
     have rE:hget H' G.length=.cells 0 [.osl 17 (G.length+3) 1 0 (g.entries.length-c+1) (g.entries.length-c+1)]:=by
      rw[hH'];exact aD (b:=.cells 0 [.osl 17 (G.length+3) 1 0 (g.entries.length-c+1) (g.entries.length-c+1)]) (gW (by rw[cJ,hl1];omega) _) trivial _
     have rK:hget H' (G.length+3)=.cells 1 (((g.entries.take (g.entries.length-c)++[(⟨o,xN n o⟩:Ent)]).map iB).flatMap AV.cells):=by
      rw[hH'];exact lT (n:=G.length+1) (k:=2) (by rw[cJ,cJ,hl1])
     have rP:∃M,H'=H++M:=by
      rw[hH'];exact aAr (eX (eX (aAr hpG _) (by omega) _) (by omega) _) _
     have hGK:H.length+3<G.length:=hlG;generalize G.length=B at r0 r2 r3 rE rK hGK ⊢;clear hH' hG hpG q0 q1 q2 q3 q0' q1' q3' ha1 hl1 hlG;refine hK @iE ?_;clear hok hsm hha hbk he;refine aI (ι:=Nat×AHeap) (fun x=>[(4,.ref (H.length+2) 0 0),(6,.ref (H.length+3) 0 0),(10,.ref B 0 0),(11,.func (.func 212) [] [.ref (H.length+3) 0 0,.ref B 0 0]),(83,.sl b1 ((g.entries.drop (g.entries.length-c)).map iB)),(84,.int .i64 ((g.entries.drop (g.entries.length-c)).length:Int)),(85,.int .i64 x.1)])
      (fun x=>x.2)
      (fun x=>x.1≤(g.entries.drop (g.entries.length-c)).length∧hget x.2 (H.length+2)=.cells 0 [.sl true [],.sl true []]∧
       hget x.2 (H.length+3)=.cells 0 [.sl false ((dO (o::((g.entries.drop (g.entries.length-c)).take x.1).map Ent.op) (g.entries.take (g.entries.length-c)) n).2.map ndA)]∧
       hget x.2 B=.cells 0 [.osl 17 (B+3) (x.1+1) 0 (dO (o::((g.entries.drop (g.entries.length-c)).take x.1).map Ent.op) (g.entries.take (g.entries.length-c)) n).1.length (dO (o::((g.entries.drop (g.entries.length-c)).take x.1).map Ent.op) (g.entries.take (g.entries.length-c)) n).1.length]∧
       hget x.2 (B+3)=.cells (x.1+1) (((dO (o::((g.entries.drop (g.entries.length-c)).take x.1).map Ent.op) (g.entries.take (g.entries.length-c)) n).1.map iB).flatMap AV.cells)∧∃M,x.2=H++M) (fun x=>(g.entries.drop (g.entries.length-c)).length-x.1) (0,H')
      ⟨zAo _,r2,by simpa[dO]using r3,by simpa[dO,lt1]using rE,by simpa[dO]using rK,rP⟩ ?_ rfl ?_
     ·simp[go_sem]
     ·rintro⟨m,X⟩ ⟨hm1,s2,s3,sE,sK,sP⟩;simp only at hm1 s2 s3 sE sK sP ⊢;have hrl:=aDX (o::((g.entries.drop (g.entries.length-c)).take m).map Ent.op) (g.entries.take (g.entries.length-c)) n;have hdl2:(g.entries.drop (g.entries.length-c)).length≤g.entries.length:=by rw[zAX];omega
      have htl:((o::((g.entries.drop (g.entries.length-c)).take m).map Ent.op)).length=m+1:=by simp;rw[zAX]at hm1;omega
      rw[htl,lt1]at hrl;by_cases hlt:m<(g.entries.drop (g.entries.length-c)).length
      ·have hp:=aN iB hlt;have hmem:(g.entries.drop (g.entries.length-c))[m]∈g.entries:=zBq (zAK hlt);have hops:=hes _ hmem;have hsn:=aCg (o::((g.entries.drop (g.entries.length-c)).take m).map Ent.op) (g.entries.drop (g.entries.length-c))[m].op (g.entries.take (g.entries.length-c)) n;have htk:(o::((g.entries.drop (g.entries.length-c)).take m).map Ent.op)++[(g.entries.drop (g.entries.length-c))[m].op]=o::((g.entries.drop (g.entries.length-c)).take (m+1)).map Ent.op:=by
        rw[zAk hlt,zA9];rfl
       rw[htk]at hsn;generalize hR:dO (o::((g.entries.drop (g.entries.length-c)).take m).map Ent.op) (g.entries.take (g.entries.length-c)) n=R at s3 sE sK hrl hsn;have hX:H.length+3<X.length:=aV s3 trivial;have hB:B<X.length:=aV sE trivial;have hK:B+3<X.length:=aV sK trivial;have s3':=fun M=>aD s3 trivial M
       have sE':=fun M=>aD sE trivial M
       have ha2:=fun E=>aSc false R.1 R.2 (g.entries.drop (g.entries.length-c))[m].op hops (by omega) (by omega) (X++[E]) (H.length+3) B (B+3) (m+1) (by omega) (by omega) (by omega) (by omega) (s3' _) (sE' _) (aD sK trivial _)
       simp only[opA]at ha2;have hltI:decide ((m:Int)<((g.entries.drop (g.entries.length-c)).length:Int))=true:=dT;repeat' first|((first|refine mx [7] iF ?_|refine gS ?_);simp only[go_sem,hp,iB,s3',sE',hltI])|refine gA ?_|(refine gD ?_ ?_<;>intro h<;>try exact aA h)|fail
       refine gR (ha2 _) (cO) ?_;rintro x H2 ⟨rfl,d0,d1,hH2⟩;simp only[go_sem];refine hG ?_;have hl2:(X++[ABlk.cells 0 (iB (g.entries.drop (g.entries.length-c))[m]).cells]).length=X.length+1:=by simp
       refine⟨(m+1,H2),⟨hlt,?_,?_,?_,?_,?_⟩,by simp only;omega,zAx _ (aS hlt (by omega)),rfl⟩
       ·simp only;rw[hH2];exact aD ((aY (by omega) _).trans ((aY (by omega) _).trans ((aY (by omega) _).trans (aD s2 trivial _)))) trivial _
       ·simp only;rw[hH2,hsn];refine aD (b:=.cells 0 [.sl false ((doL R.2 (g.entries.drop (g.entries.length-c))[m].op).map ndA)]) ((aY (by omega) _).trans ((aY (by omega) _).trans (gW ?_ _))) trivial _
        rw[zAa];omega
       ·simp only;rw[hH2,hsn];have hb:=gW (H:=aB (aB (X++[ABlk.cells 0 (iB (g.entries.drop (g.entries.length-c))[m]).cells]) (H.length+3) (.cells 0 [.sl false ((doL R.2 (g.entries.drop (g.entries.length-c))[m].op).map ndA)])) (B+3) (.cells (m+1+1) (((R.1++[(⟨(g.entries.drop (g.entries.length-c))[m].op,xN R.2 (g.entries.drop (g.entries.length-c))[m].op⟩:Ent)]).map iB).flatMap AV.cells))) (i:=B) (by rw[cJ,cJ,hl2];omega) (.cells 0 [.osl 17 (B+3) (m+1+1) 0 (R.1.length+1) (R.1.length+1)])
        refine(aD hb trivial _).trans ?_;rw[zAa];rfl
       ·simp only;rw[hH2,hsn];refine aD (b:=.cells (m+1+1) (((R.1++[(⟨(g.entries.drop (g.entries.length-c))[m].op,xN R.2 (g.entries.drop (g.entries.length-c))[m].op⟩:Ent)]).map iB).flatMap AV.cells)) ((aY (by omega) _).trans (gW ?_ _)) trivial _
        rw[cJ,zAa];omega
       ·simp only;rw[hH2];exact aAr (eX (eX (eX (aAr sP _) (by omega) _) (by omega) _) (by omega) _) _
      ·have hme:m=(g.entries.drop (g.entries.length-c)).length:=by omega
       subst hme;rw[zAD]at s3 sE sK hrl;have hltI:decide (((g.entries.drop (g.entries.length-c)).length:Int)<((g.entries.drop (g.entries.length-c)).length:Int))=false:=by simp
       obtain⟨M,hM⟩:=sP;have h2M:H.length+2<X.length:=aV s2 trivial;have sK':=sK;generalize hV:(dO (o::(g.entries.drop (g.entries.length-c)).map Ent.op) (g.entries.take (g.entries.length-c)) n)=R at s3 sE sK hrl ⊢;have sS:∀b,hget (aB X (H.length+2) b) (H.length+2)=b:=fun b=>gW h2M b
       repeat' first|((first|refine mx [7] iF ?_|refine gS ?_);simp only[go_sem,s2,s3,sE,hltI,sS])|refine gA ?_|(refine gD ?_ ?_<;>intro h<;>try exact aA h)|fail
       obtain⟨M2,hM2⟩:=eX ⟨M,hM⟩ (i:=H.length+2) (by omega) (.cells 0 [.osl 17 (B+3) ((g.entries.drop (g.entries.length-c)).length+1) 0 R.1.length R.1.length,.sl false (R.2.map ndA)])
       refine⟨M2,_,hM2,?_,rfl⟩;refine .tup _ _ rfl (sZ (.agg _ _ rfl (sZ ?_ (sZ (.cl _ (Pur.cl (by simp only[go_sem]) _)) aD7))) (sZ (.cl _ (.int _ _)) aD7))
       exact iT (es:=R.1.map iB) (rest:=[]) (by omega) ((aY (by omega) _).trans sK) (zAd _).symm (by rw[zAn]) (iW _) (tT _)
end
namespace Go.Srt
section
variable {α:Type} (lt:α→α→Bool)
variable {lt}
end
end Go.Srt
section
theorem gX(H:AHeap)(i:Nat)(b b':ABlk):aB (aB H i b) i b'=aB H i b':=by simp[aB]
theorem jY{H:AHeap}{i:Nat}{b:ABlk}(h:hget H i=b)(hb:b.live)(b':ABlk):hget (aB H i b') i=b':=gW (aV h hb) b'
theorem nI{H:AHeap}{i:Nat}{b:ABlk}(h:hget H i=b)(hb:b.live):aB H i b=H:=aHQ (cV h hb)
where
 pur_opm (l:List Opn):∀e∈l.map opA,Pur e:=fun e he=>by
  obtain⟨x,_,rfl⟩:=zAm.1 he;exact(by simp only[go_sem])
theorem pY{H:AHeap}{i n:Nat}{b:ABlk}(hb:ClB n b):∀(j:Nat) (c:ABlk),(aB H i b)[j]?=some c→H[j]?=some c∨ClB n c:=by
 intro j c hj;by_cases e:i=j
 ·subst e;unfold aB at hj;by_cases hl:i<H.length
  ·rw[zAU hl]at hj;cases hj;exact .inr hb
  ·rw[zBt (by rw[zAG];omega)]at hj;cases hj
 ·unfold aB at hj;rw[zAA e]at hj;exact .inl hj
theorem iX{H:AHeap}{i:Nat}{b:ABlk}(hb:ClB H.length b)(R:AV→AHeap→Prop)(hR:R (.tup []) (aB H i b)):
  ∃H1 L y,aB H i b=H1++L∧H1.length=H.length∧(∀(j:Nat) (c:ABlk),H1[j]?=some c→H[j]?=some c∨ClB H.length c)∧Frz H.length (aB H i b) (.tup []) y∧R y H1:=by
 exact⟨aB H i b,[],.tup [],(zAd _).symm,cJ H i b,pY hb,.cl _ (Pur.cl (.tup _ (fun _ h=>by cases h)) _),hR⟩
theorem aJ{n:Nat}{m:Int}(h:(n:Int)=m)(hn:n≤9223372036854775807):IntKind.i64.wrap m=(n:Int):=by subst h;exact wI
theorem aCV{P:Program}{N:Nat}{x y:Code}{Q:bL}{α:AF}{H:AHeap}{ι:Type}(F:ι→AF)(Hp:ι→AHeap)(pre:ι→Prop)(h1:aw P N x (aFr F Hp pre Q) α H)(h2:∀i,pre i→aw P N y Q (F i) (Hp i)):aw P N x (aAE P N y Q) α H:=by
 refine aAi h1 fun e α' H' h=>?_
 cases e with
 |normal=>
  obtain⟨i,hp,hs,rfl⟩:=h;exact sV (h2 i hp) (kJ hs)
 |_=>exact h
open Go.Srt
end
section
def cY(b:UInt8):List UInt8→List (List UInt8)
 |[]=>[[]]
 |c::l=>match cY b l with
  |[]=>[[]]
  |h::t=>if c=b then[]::h::t else(c::h)::t
theorem tA(b:UInt8)(l:List UInt8):cY b l≠[]:=by
 cases l with
 |nil=>simp[cY]
 |cons c l=>rw[cY];split;simp;split<;>simp
theorem aA8{b:UInt8}{l:List UInt8}(h:Lib.indexByte l b<0):cY b l=[l]∧Lib.countByte l b=0:=by
 induction l with
 |nil=>exact⟨rfl,rfl⟩
 |cons c l ih=>
  rw[Lib.indexByte]at h;split at h
  ·omega
  ·rename_i h1;have h2:Lib.indexByte l b<0:=by
    have:=Lib.indexByte_ge l b;split at h
    ·rename_i h3;have:Lib.indexByte l b= -1:=by simpa using h3
     omega
    ·omega
   obtain⟨e1,e2⟩:=ih h2;have h3:¬c=b:=by simpa using h1
   refine⟨by rw[cY,e1];simp[h3],?_⟩
   unfold Lib.countByte at e2 ⊢;rw[List.count_cons,e2];simp[h3]
theorem aA9{b:UInt8}{l:List UInt8}{k:Nat}(h:Lib.indexByte l b=k):k<l.length∧cY b l=l.take k::cY b (l.drop (k+1))∧Lib.countByte l b=Lib.countByte (l.drop (k+1)) b+1:=by
 induction l generalizing k with
 |nil=>rw[Lib.indexByte]at h;omega
 |cons c l ih=>
  rw[Lib.indexByte]at h;split at h
  ·rename_i h1;have h1:c=b:=by simpa using h1
   have hk:k=0:=by omega
   subst hk;subst h1;refine⟨by simp,?_,?_⟩
   ·rw[cY];cases hs:cY c l with
    |nil=>exact absurd hs (tA c l)
    |cons x t=>simp[hs]
   ·unfold Lib.countByte;simp
  ·rename_i h1;have h3:¬c=b:=by simpa using h1
   split at h
   ·omega
   ·obtain⟨j,rfl⟩:∃j,k=j+1:=⟨k-1,by
     rename_i h4;have:=Lib.indexByte_ge l b;have h5:¬Lib.indexByte l b= -1:=by simpa using h4
     omega⟩
    obtain⟨a1,a2,a3⟩:=ih (k:=j) (by omega)
    refine⟨by simpa using a1,?_,?_⟩
    ·rw[cY,a2];simp[h3]
    ·unfold Lib.countByte at a3 ⊢;rw[List.count_cons,a3];simp[h3]
theorem aFs{b:UInt8}{l:List UInt8}(h:Lib.countByte l b=0):cY b l=[l]:=by
 rcases Int.lt_or_le (Lib.indexByte l b) 0 with h1|h1
 ·exact(aA8 h1).1
 ·have:=(aA9 (b:=b) (l:=l) (k:=(Lib.indexByte l b).toNat) (by omega)).2.2
  omega
theorem aIm{b:UInt8}{l:List UInt8}(h:0<Lib.countByte l b):∃k:Nat,Lib.indexByte l b=k:=by
 rcases Int.lt_or_le (Lib.indexByte l b) 0 with h1|h1
 ·have:=(aA8 h1).2;omega
 ·exact⟨(Lib.indexByte l b).toNat,by omega⟩
theorem aBa(A B:List AV)(y x:AV){n:Nat}(h:A.length=n):bG (A++y::B) (n * 1) [x]=A++x::B:=by
 subst h;rw[zAB];simp[bG]
theorem aKC(s:List UInt8)(b:UInt8)(hs:s.length≤1048576)(H:AHeap):bH Tryz.prog 106 [.str s,.str [b],.int .i64 0,.int .i64 (-1)] H (.sl false ((cY b s).map AV.str)):=by
 refine fO Tryz.func106 ?_;have hcle:Lib.countByte s b≤s.length:=List.count_le_length;have hcnt:=aKb s b;generalize hm:Lib.countByte s b=m at *;have w1:IntKind.i64.wrap ((m:Int)+1)=((m+1:Nat):Int):=by rw[wI];rfl
 have w2:IntKind.i64.wrap ((s.length:Int)+1)=((s.length+1:Nat):Int):=by rw[wI];rfl
 have w3:min ((m+1:Nat):Int) ((s.length+1:Nat):Int)=((m+1:Nat):Int):=by omega
 have w4:IntKind.i64.wrap (((m+1:Nat):Int)-1)=(m:Int):=by rw[wI];omega
 have w5:(((m+1:Nat):Int)).toNat=m+1:=zAI _;have e0:List.flatMap AV.cells (List.replicate (m+1) (AV.str []))=List.replicate (m+1) (AV.str []):=by
  rw[List.flatMap_replicate];simp[AV.cells]
 have hc1:∀l:List (List UInt8),(l.map AV.str).flatMap AV.cells=l.map AV.str:=fun l=>by
  rw[List.flatMap_map];induction l with|nil=>rfl|cons x l ih=>rw[zBd,zAw,ih];rfl
 refine hH ?_;refine aI (ι:=Nat×List (List UInt8)×List UInt8) (fun x=>[(0,.str x.2.2),(1,.str [b]),(2,.int .i64 0),(3,.int .i64 m),(9,.osl 1 H.length 1 0 (m+1) (m+1)),(10,.int .i64 x.1)])
  (fun x=>H++[.cells 1 (x.2.1.map AV.str++List.replicate (m+1-x.1) (.str []))])
  (fun x=>x.1≤m∧x.2.1.length=x.1∧cY b s=x.2.1++cY b x.2.2∧Lib.countByte x.2.2 b+x.1=m∧x.2.2.length≤s.length) (fun x=>m-x.1) (0,[],s) ⟨zAo _,rfl,rfl,hm,zAf _⟩ ?_ (by simp) ?_
 ·simp[go_sem]
 ·rintro⟨i,pre,r⟩ ⟨hi,hl,hsp,hct,hrl⟩;simp only at hi hl hsp hct hrl ⊢;by_cases hlt:i<m
  ·obtain⟨k,hk⟩:=aIm (b:=b) (l:=r) (by omega)
   obtain⟨k1,k2,k3⟩:=aA9 hk;have hix:=aKc r b;rw[hk]at hix;have hli:decide ((i:Int)<(m:Int))=true:=dT;have hkn:decide ((k:Int)<0)=false:=dF;have x1:IntKind.i64.wrap ((k:Int)+0)=(k:Int):=by rw[wI];omega
   have x2:IntKind.i64.wrap ((k:Int)+1)=((k+1:Nat):Int):=by rw[wI];rfl
   repeat' first|(refine gS ?_;simp only[go_sem,hli,hkn,x1,x2])|refine gA ?_|(refine gD ?_ ?_<;>intro h<;>try exact aA h)|fail
   have x3:(IntKind.i64.wrap ((k:Int)+((1:Nat):Int))).toNat=k+1:=by rw[wI];omega
   refine⟨(i+1,pre++[r.take k],r.drop (k+1)),⟨hlt,by simp[hl],by rw[hsp,k2];simp,by simp only;omega,by simp only[zAX];omega⟩,by simp only;omega,⟨by rw[x3],zAx _ (aS hlt (by omega))⟩,?_⟩
   have e1:m+1-i=(m-i)+1:=by omega
   have e2:m+1-(i+1)=m-i:=by omega
   simp only[e1,e2,zB3];rw[aBa _ _ _ _ (by rw[zAn];exact hl)]
   simp
  ·have hie:i=m:=by omega
   subst hie;have hli:decide ((i:Int)<(i:Int))=false:=by simp
   repeat' first|(refine gS ?_;simp only[go_sem,hli])|refine gA ?_|(refine gD ?_ ?_<;>intro h<;>try exact aA h)|fail
   have e1:i+1-i=1:=by omega
   have e3:(IntKind.i64.wrap ((i:Int)+1)).toNat=i+1:=by rw[wI];omega
   have e4:cY b s=pre++[r]:=by rw[hsp,aFs (b:=b) (l:=r) (by omega)]
   simp only[e1,e3,zB3,List.replicate_zero];rw[aBa _ _ _ _ (by rw[zAn];exact hl)]
   have e5:pre.map AV.str++[AV.str r]=(cY b s).map AV.str:=by rw[e4];simp
   rw[e5];exact iU (cs:=(cY b s).map AV.str) (es:=(cY b s).map AV.str) (rest:=[]) (by omega) (by simp only[go_sem]) (by rw[hc1,zAd]) (by rw[zAn,e4];simp[hl]) (fun e he=>by obtain⟨x,_,rfl⟩:=zAm.1 he;rfl) (fun e he=>by obtain⟨x,_,rfl⟩:=zAm.1 he;exact(by simp only[go_sem])) rfl
end
section
theorem aIn{b:UInt8}{l:List UInt8}:∀x∈cY b l,x.length≤l.length:=by
 induction l with
 |nil=>intro x hx;simp[cY]at hx;simp[hx]
 |cons c l ih=>
  intro x hx;rw[cY]at hx;cases hs:cY b l with
  |nil=>exact absurd hs (tA b l)
  |cons y t=>
   rw[hs]at ih;simp only[hs]at hx;rw[zAc];by_cases h:c=b
   ·rw[zAl h]at hx;rcases zAs.1 hx with q|q
    ·rw[q];simp
    ·have:=ih x q;omega
   ·rw[zAe h]at hx;rcases zAs.1 hx with q|q
    ·have:=ih y (by simp);rw[q,zAc];omega
    ·have:=ih x (by simp[q]);omega
def aCW(l:List Txt):Bool:=decide ((l.length:Int)≤16)&&l.all jX
def bM(p:Txt):Option (List Txt):=
 if p=[47]then some []else match p with
 |[]=>none
 |c::l=>if c=47 then(if aCW (cY 47 l)=true then some (cY 47 l)else none)else none
theorem aKD(s:List UInt8)(b:UInt8)(hs:s.length≤1048576)(H:AHeap):bH Tryz.prog 85 [.str s,.str [b]] H (.sl false ((cY b s).map AV.str)):=by
 refine fO Tryz.func85 ?_;have hg:=aKC s b hs;repeat' first|(refine gS ?_;simp only[go_sem])|refine gA ?_|(refine gD ?_ ?_<;>intro h<;>try exact aA h)|fail
 exact cL (.refl _)
theorem aVH(f:Bool)(l:List Txt)(hl:∀x∈l,x.length≤1048576)(H:AHeap):bH Tryz.prog 86 [.sl f (l.map AV.str)] H (.bool (aCW l)):=by
 refine fO Tryz.func86 ?_;by_cases h16:(l.length:Int)≤16
 ·have hd:decide ((16:Int)<(l.length:Int))=false:=dF;have hF:aCW l=l.all jX:=by rw[aCW,zAj h16,zAN]
  rw[hF];refine hH ?_;refine aI (ι:=Nat) (fun i=>[(8,.sl f (l.map AV.str)),(9,.int .i64 l.length),(10,.int .i64 i)]) (fun _=>H) (fun i=>i≤l.length∧∀x∈l.take i,jX x=true) (fun i=>l.length-i) 0 ⟨zAo _,by simp⟩ ?_ rfl ?_
  ·simp[go_sem]
  ·rintro i ⟨hi,hok⟩;by_cases hlt:i<l.length
   ·have hp:=aN AV.str hlt;have hli:decide ((i:Int)<(l.length:Int))=true:=dT;have hn:=vH l[i] (by have:=hl _ (zAK hlt);omega)
    cases hk:jX l[i]with
    |false=>
     rw[hk]at hn;have hall:l.all jX=false:=by rw[List.all_eq_false];exact⟨l[i],zAK hlt,by rw[hk];decide⟩
     rw[hall];refine hH ?_;exact cL (.refl _)
    |true=>
     rw[hk]at hn;refine hH ?_;refine⟨i+1,⟨hlt,fun x hx=>?_⟩,by omega,zAx _ (aS hlt (by omega))⟩
     rw[zAk hlt,zAy,zAq]at hx;rcases hx with q|q
     ·exact hok x q
     ·rw[q];exact hk
   ·have hie:i=l.length:=by omega
    subst hie;have hli:decide ((l.length:Int)<(l.length:Int))=false:=by simp
    have hall:l.all jX=true:=zAJ.2 (by rwa[zAD]at hok)
    rw[hall];refine hH ?_;exact cL (.refl _)
 ·have hd:decide ((16:Int)<(l.length:Int))=true:=dT;have hF:aCW l=false:=by rw[aCW,zAg h16,zB5]
  rw[hF];refine hH ?_;exact cL (.refl _)
def gY(p:Txt):AV:=match bM p with
 |none=>.tup [.sl true [],.int .i64 10]
 |some l=>.tup [.sl (decide (p=[47])) (l.map AV.str),.int .i64 0]
theorem aBb(p:Txt)(hs:p.length≤1048576)(H:AHeap):bH Tryz.prog 64 [.str p] H (gY p):=by
 refine fO Tryz.func64 ?_;have hcut:=aR2 p 47;by_cases h1:p=[47]
 ·have hd:decide (p=[47])=true:=zAj h1;simp only[gY,bM,zAl h1,hd];refine hH ?_;exact cL (.refl _)
 ·have hd:decide (p=[47])=false:=zAg h1;simp only[gY,bM,zAe h1,hd];cases p with
  |nil=>
   simp only[aBI]at hcut;refine hH ?_;exact cL (.refl _)
  |cons c l=>
   rw[zAc]at hs;by_cases h2:c=47
   ·simp only[aBI,zAl h2]at hcut ⊢;have hsp:=aKD l 47 (by omega)
    have hfi:=aVH false (cY 47 l) (fun x hx=>by have:=aIn x hx;omega)
    cases hf:aCW (cY 47 l)with
    |false=>
     rw[hf]at hfi;repeat' first|(refine gS ?_;simp only[go_sem,hd])|refine gA ?_|(refine gD ?_ ?_<;>intro h<;>try exact aA h)|fail
     exact cL (.refl _)
    |true=>
     rw[hf]at hfi;repeat' first|(refine gS ?_;simp only[go_sem,hd])|refine gA ?_|(refine gD ?_ ?_<;>intro h<;>try exact aA h)|fail
     exact cL (.refl _)
   ·simp only[aBI,zAe h2]at hcut ⊢;refine hH ?_;exact cL (.refl _)
end
section
structure Cal where
 kind:Int
 path:Txt
 to:Txt
 data:Txt
 n:Int
deriving DecidableEq,Inhabited
structure Evt where
 kind:Int
 path:Txt
deriving DecidableEq,Inhabited
structure Ans where
 err:Int
 data:Txt
 names:List Txt
 n:Int
 events:List Evt
deriving DecidableEq,Inhabited
structure Thr where
 call:Cal
 has:List Int
 at_:Int
 done:Bool
 ended:Bool
 upto:Int
 begin_:Int
 mark:Int
 end_:Int
 ans:Ans
deriving DecidableEq,Inhabited
structure Trn where
 kind:Int
 lock:Int
deriving DecidableEq,Inhabited
def aFt(s:Txt):AV:=.str s
def dS(c:Cal):AV:=.agg [.int .i64 c.kind,.str c.path,.str c.to,.str c.data,.int .i64 c.n]
def fF(e:Evt):AV:=.agg [.int .i64 e.kind,.str e.path]
def trA(t:Trn):AV:=.agg [.int .i64 t.kind,.int .i64 t.lock]
def vS(h n e:AV)(t:Thr):AV:=.agg [.int .i64 t.call.kind,.str t.call.path,.str t.call.to,.str t.call.data,.int .i64 t.call.n,h,.int .i64 t.at_,.bool t.done,.bool t.ended,.int .i64 t.upto,.int .i64 t.begin_,.int .i64 t.mark,.int .i64 t.end_,
 .int .i64 t.ans.err,.str t.ans.data,n,.int .i64 t.ans.n,e]
def pE(f1 f2 f3:Bool)(t:Thr):AV:=vS (.sl f1 (t.has.map bK)) (.sl f2 (t.ans.names.map AV.str)) (.sl f3 (t.ans.events.map fF)) t
@[go_sem] theorem aXF(x:Cal):Pur (dS x)=True:=by simp only[dS,go_sem]
@[go_sem] theorem aXG(x:Evt):Pur (fF x)=True:=by simp only[fF,go_sem]
@[go_sem] theorem aXH(x:Trn):Pur (trA x)=True:=by simp only[trA,go_sem]
@[go_sem] theorem aXI(f1 f2 f3:Bool)(x:Thr):Pur (pE f1 f2 f3 x)=True:=by simp only[pE,vS,go_sem]
def ca0:Cal:=⟨0,[],[],[],0⟩
def an0:Ans:=⟨0,[],[],0,[]⟩
def th0(c:Cal):Thr:=⟨c,[],0,false,false,0,0,0,0,an0⟩
def walksK(c:Cal):Bool:=decide (c.kind=1)||decide (c.kind=2)||decide (c.kind=3)||decide (c.kind=10)||(decide (c.kind=4)||decide (c.kind=7))&&decide (c.n=0)
def turnsK(c:Cal):Bool:=decide (c.kind=5)||decide (c.kind=6)||decide (c.kind=13)
def wnames(c:Cal):List Txt:=match bM c.path with
 |none=>[]
 |some l=>if c.kind=7∨c.kind=10 then l else l.dropLast
theorem nJ{p:Txt}{l:List Txt}(h:bM p=some l):l.length≤16:=by
 unfold bM at h;split at h
 ·cases h;simp
 ·split at h
  ·cases h
  ·split at h
   ·split at h
    ·rename_i hf;cases h;simp only[aCW,zAu,zAF]at hf;omega
    ·cases h
   ·cases h
def dG(l:List Nd)(p:Txt):Option Int:=match bM p with
 |some (x::xs)=>if(findN l (x::xs).dropLast).2=0∧dirI (findN l (x::xs).dropLast).1=true then some (findN l (x::xs).dropLast).1 else none
 |_=>none
def mL(ds:List Int)(o:Option Int):List Int:=match o with
 |some d=>if ds.contains d=true then ds else ds++[d]
 |none=>ds
def jD(c:Cal):List Txt:=if c.kind=5 then[c.path,c.to]else if c.kind=6 then[c.path]else[]
def uH(l:List Nd)(c:Cal):List Int:=(jD c).foldl (fun ds p=>mL ds (dG l p)) []
def fX(l:List Nd)(a b:Int):Bool:=(kM l b).contains a
def gZ(l:List Nd)(ds:List Int):List Int:=match ds with
 |[a,b]=>if(!fX l a b&&(fX l b a||decide (b<a)))=true then[b,a]else[a,b]
 |ds=>ds
def locksT(l:List Nd)(c:Cal):List Int:=1::gZ l (uH l c)
def turnN(has:List Int):List Int→Trn
 |[]=>⟨3,0⟩
 |k::ks=>if has.contains k=true then turnN has ks else⟨1,k⟩
def vT(l:List Nd)(names:List Txt)(t:Thr):Trn:=match t.has with
 |[]=>⟨1,0⟩
 |_::_::_=>⟨2,t.has.headD 0⟩
 |[here]=>
  match(if 0≤t.at_ then names[t.at_.toNat]? else none).bind (childN l here)with
  |some n=>if dirI n.id=true then⟨1,n.id⟩else if(findN l names).2=0∧dirI (findN l names).1=true∧(findN l names).1≠here then⟨2,here⟩else⟨3,0⟩
  |none=>if(findN l names).2=0∧dirI (findN l names).1=true∧(findN l names).1≠here then⟨2,here⟩else⟨3,0⟩
def nextT(l:List Nd)(t:Thr):Trn:=
 if t.ended=true then⟨0,0⟩else if t.done=true then(match t.has with|k::_=>⟨2,k⟩|[]=>if t.call.kind=12 then⟨4,0⟩else⟨5,0⟩)
 else if turnsK t.call=true then turnN t.has (locksT l t.call)else if walksK t.call=true then vT l (wnames t.call) t else⟨3,0⟩
def afterT(t:Thr)(u:Trn):Thr:=
 if u.kind=1 then{t with at_:=if t.has.length=1∧walksK t.call=true then IntKind.i64.wrap (t.at_+1)else t.at_,has:=t.has++[u.lock]}
 else if u.kind=2 then{t with has:=t.has.filter (fun k=> !decide (k=u.lock)),at_:=if t.has.filter (fun k=> !decide (k=u.lock))=[]∧t.done=false∧walksK t.call=true then 0 else t.at_}
 else if u.kind=3 then{t with done:=true}else if u.kind=5 then{t with ended:=true}else t
def rI(t:Thr):Thr:={t with has:=[],at_:=0}
theorem aFu{has ks:List Int}{k:Int}(h:has.contains k=true):turnN has (k::ks)=turnN has ks:=by rw[turnN,zAl h]
theorem aBc{has ks:List Int}{k:Int}(h:has.contains k=false):turnN has (k::ks)=⟨1,k⟩:=by rw[turnN,zAe (by rw[h];intro q;cases q)]
theorem pZ(c:Cal):(wnames c).length≤16:=by
 unfold wnames;split
 ·simp
 ·rename_i l h;have:=nJ h;split
  ·exact this
  ·rw[List.length_dropLast];omega
theorem aD9{p:Txt}(hn:bM p=some []):p=[47]:=by
 by_cases hp:p=[47]
 ·exact hp
 ·unfold bM at hn;rw[zAe hp]at hn;split at hn
  ·cases hn
  ·split at hn
   ·split at hn
    ·exact absurd (zBa hn) (tA _ _)
    ·cases hn
   ·cases hn
theorem aKE(ds:List Int)(o:Option Int):(mL ds o).length≤ds.length+1:=by
 unfold mL;split
 ·split
  ·omega
  ·simp
 ·omega
theorem aFv(l:List Nd)(c:Cal):(uH l c).length≤2:=by
 have h:∀(ps:List Txt) (ds:List Int),(ps.foldl (fun ds p=>mL ds (dG l p)) ds).length≤ds.length+ps.length:=by
  intro ps;induction ps with
  |nil=>intro ds;simp
  |cons p ps ih=>intro ds;rw[zBy];have:=ih (mL ds (dG l p));have:=aKE ds (dG l p);simp only[zAc];omega
 have h1:=h (jD c) [];have h2:(jD c).length≤2:=by rw[jD];split<;>(try split)<;>simp
 rw[uH];simp only[zAv]at h1;omega
theorem aFw(l:List Nd)(ds:List Int):(gZ l ds).length=ds.length:=by
 unfold gZ;split
 ·split<;>rfl
 ·rfl
theorem qB(l:List Nd)(c:Cal):(locksT l c).length≤3:=by
 have:=aFv l c;rw[locksT,zAc,aFw];omega
end
section
open Go.ChangeShapes Go.WideShapes Go.ChangeAt Go.RowKit
theorem aVI:eP Tryz.prog 48=true:=by kernel_rfl
theorem aSf:kindB Tryz.prog 48=true:=by kernel_rfl
theorem aSg:eP Tryz.prog 51=false:=by kernel_rfl
theorem aN9:kindB Tryz.prog 51=true:=by kernel_rfl
theorem aEa{ys:List AV}(h:Sh Tryz.prog 48 ys):∃o:Cal,ys=(dS o).cells:=by
 obtain⟨y1,ys1,rfl,h1,r1⟩:=jS (aB7 Tryz.underlying48 aSf h);obtain⟨y2,ys2,rfl,h2,r2⟩:=jS r1;obtain⟨y3,ys3,rfl,h3,r3⟩:=jS r2;obtain⟨y4,ys4,rfl,h4,r4⟩:=jS r3;obtain⟨y5,ys5,rfl,h5,r5⟩:=jS r4;obtain rfl:=aGI r5;obtain⟨a,rfl,_⟩:=aAU Tryz.underlying3 h1;obtain⟨s,rfl,_⟩:=aFe Tryz.underlying9 h2;obtain⟨u,rfl,_⟩:=aFe Tryz.underlying9 h3;obtain⟨v,rfl,_⟩:=aFe Tryz.underlying9 h4;obtain⟨b,rfl,_⟩:=aAU Tryz.underlying3 h5;exact⟨⟨a,s,u,v,b⟩,rfl⟩
theorem aOa{zs:List (List AV)}(h:∀z∈zs,Sh Tryz.prog 3 z):∃l:List Int,zs.map (mkA Tryz.prog 3)=l.map bK∧l.length=zs.length:=by
 induction zs with
 |nil=>exact⟨[],rfl,rfl⟩
 |cons z zs ih=>
  obtain⟨p,rfl,_⟩:=aAU Tryz.underlying3 (h z (by simp))
  obtain⟨l,h1,h2⟩:=ih fun z hz=>h z (by simp[hz])
  refine⟨p::l,?_,by simp[h2]⟩
  rw[zAw,zAw,h1,mkA,zAe (by rw[aJ8];decide)];rfl
theorem aOb{x:AV}(h:∃ys,x=mkA Tryz.prog 51 ys∧Sh Tryz.prog 51 ys∧(eP Tryz.prog 51=true∨ys.length=1)):∃l:List Int,x=.sl false (l.map bK)∧l.length≤maxLen:=by
 obtain⟨ys,rfl,h,_⟩:=h;obtain⟨zs,rfl,hl,hz⟩:=aAV Tryz.underlying51 aN9 h;obtain⟨l,h1,h2⟩:=aOa hz;refine⟨l,?_,by rw[h2];exact hl⟩
 rw[mkA,zAe (by rw[aSg];decide),h1];rfl
end
section
open Go.ChangeShapes Go.WideShapes Go.ChangeAt Go.RowKit
theorem aSh:eP Tryz.prog 57=false:=by kernel_rfl
theorem aOc:kindB Tryz.prog 57=true:=by kernel_rfl
theorem aOd{zs:List (List AV)}(h:∀z∈zs,Sh Tryz.prog 48 z):∃l:List Cal,zs.map (mkA Tryz.prog 48)=l.map dS∧l.length=zs.length:=by
 induction zs with
 |nil=>exact⟨[],rfl,rfl⟩
 |cons z zs ih=>
  obtain⟨p,rfl⟩:=aEa (h z (by simp))
  obtain⟨l,h1,h2⟩:=ih fun z hz=>h z (by simp[hz])
  refine⟨p::l,?_,by simp[h2]⟩
  rw[zAw,zAw,h1,mkA,zAl aVI];rfl
theorem aKF{x:AV}(h:∃ys,x=mkA Tryz.prog 57 ys∧Sh Tryz.prog 57 ys∧(eP Tryz.prog 57=true∨ys.length=1)):∃l:List Cal,x=.sl false (l.map dS)∧l.length≤maxLen:=by
 obtain⟨ys,rfl,h,_⟩:=h;obtain⟨zs,rfl,hl,hz⟩:=aAV Tryz.underlying57 aOc h;obtain⟨l,h1,h2⟩:=aOd hz;refine⟨l,?_,by rw[h2];exact hl⟩
 rw[mkA,zAe (by rw[aSh];decide),h1];rfl
end
section
def iK:List Int→List Int→Int
 |[],[]=>0
 |[],(_::_)=> -1
 |_::_,[]=>1
 |x::xs,y::ys=>if x<y then-1 else if y<x then 1 else iK xs ys
def cE(s:Txt):List Int:=match oP s with
 |some l=>l
 |none=>s.map fun b=>((b.toNat:Int)+1114112)
def ltN(a b:Txt):Bool:=decide (iK (cE a) (cE b)<0)
theorem mM(a b:List Int):iK a b= -1∨iK a b=0∨iK a b=1:=by
 induction a generalizing b<;>grind [iK,List,Int]
theorem aCX{a b:List Int}(h:iK a b=0):a=b:=by
 induction a generalizing b with
 |nil=>grind [iK,List,Int]
 |cons x a ih=>
  cases b with
  |nil=>simp[iK]at h
  |cons y b=>
   grind [iK]
theorem aIp(a:List Int):iK a a=0:=by
 induction a with
 |nil=>rfl
 |cons x a ih=>rw[iK,zAe (by omega),zAe (by omega),ih]
theorem tB(a b:List Int):iK b a= -iK a b:=by
 induction a generalizing b<;>grind [iK,List,Int]
theorem aBd{a b c:List Int}(h:iK a b= -1)(k:iK b c= -1):iK a c= -1:=by
 induction a generalizing b c with
 |nil=>
  grind [iK,List,Int]
 |cons x a ih=>
  cases b with
  |nil=>simp[iK]at h
  |cons y b=>
   cases c with
   |nil=>simp[iK]at k
   |cons z c=>
    rw[iK]at h k ⊢;grind
theorem uI(s:Txt)(pos:Nat):fW s pos=Lib.decodeL (s.drop pos):=(Lib.decodeL_drop ⟨s.toArray⟩ pos).symm
theorem aXJ{l:Txt}(h:aA1 [239,191,189] l=true):Lib.decodeL l=(65533,3):=by
 unfold aA1 at h;simp only[zAu,zAF]at h;obtain⟨h1,h2⟩:=h
 match l,h1,h2 with
 |a::b::c::r,h1,h2=>
  simp only[zAc,zAv,List.take_succ_cons,List.take_zero,List.cons.injEq,and_true]at h2;obtain⟨rfl,rfl,rfl⟩:=h2;simp[zAc,zAv,List.take_succ_cons,List.take_zero,List.cons.injEq,Lib.decodeL_N,List.getD_cons_zero,List.getD_cons_succ,Lib.decodeN,]
theorem aCY(s:Txt):∀(k pos:Nat) (l:List Int),gV s k pos=some l→s.drop pos=l.flatMap Lib.encodeRune∧∀x∈l,x≤1114111:=by
 intro k;induction k with
 |zero=>
  simp[pos,gV,zCh,]
 |succ k ih=>
  intro pos l h;unfold gV at h;split at h
  ·rename_i hlt;split at h
   ·rename_i hc;cases hr:gV s k (pos+(fW s pos).2)with
    |none=>rw[hr]at h;cases h
    |some r=>
     rw[hr,zCm]at h;obtain⟨e1,e2⟩:=ih _ _ hr;cases h;have hne:s.drop pos≠[]:=by rw[Ne,List.drop_eq_nil_iff];omega
     have hv:¬((Lib.decodeL (s.drop pos)).1=65533∧(Lib.decodeL (s.drop pos)).2=1):=by
      rintro⟨q1,q2⟩;rcases hc with hc|hc
      ·rw[uI,q1]at hc;simp at hc
      ·rw[aXJ hc]at q2;cases q2
     have hen:=Lib.encode_decode _ hne hv;rw[←uI]at hen;refine⟨?_,fun x hx=>?_⟩
     ·rw[zBd,hen,←e1,←zCs,zAS]
     ·rcases zAs.1 hx with rfl|hx
      ·have:=Lib.decodeL_rune (s.drop pos);rw[←uI]at this;omega
      ·exact e2 x hx
   ·cases h
  simp_all
theorem nK{s:Txt}{l:List Int}(h:oP s=some l):s=l.flatMap Lib.encodeRune∧∀x∈l,x≤1114111:=aCY s _ 0 l h
theorem aFx{a b:Txt}(h:cE a=cE b):a=b:=by
 have big:∀{s:Txt} {l:List Int},oP s=none→(∀x∈l,x≤1114111)→(s.map fun b=>((b.toNat:Int)+1114112))≠l:=by
  intro s l hs hl he;cases s with
  |nil=>cases hs
  |cons c s=>
   have:=hl ((c.toNat:Int)+1114112) (by rw[←he];simp)
   omega
 unfold cE at h;cases ha:oP a with
 |some l=>
  obtain⟨e1,e2⟩:=nK ha;cases hb:oP b with
  |some m=>
   rw[ha,hb]at h;rw[e1,(nK hb).1];exact zAx _ h
  |none=>
   grind
 |none=>
  cases hb:oP b with
  |some m=>
   rw[ha,hb]at h;exact absurd h (big ha (nK hb).2)
  |none=>
   rw[ha,hb]at h;simp only at h;refine(List.map_inj_right fun x y hxy=>?_).1 h
   have:x.toNat=y.toNat:=by omega
   exact UInt8.toNat_inj.1 this
theorem tC:Sort.SWO ltN where
 irrefl:=fun x=>by simp[ltN,aIp]
 trans:=fun x y z h k=>by
  unfold ltN at *;rw[zAF]at *;have h1:=mM (cE x) (cE y);have h2:=mM (cE y) (cE z);rw[aBd (show iK (cE x) (cE y)= -1 by omega) (show iK (cE y) (cE z)= -1 by omega)]
  omega
 ntrans:=fun x y z h k=>by
  unfold ltN at *;rw[zA1]at *;intro q;have h1:=mM (cE x) (cE y);have h2:=mM (cE y) (cE z);have h3:=mM (cE x) (cE z);have a1:=tB (cE x) (cE y);have a2:=tB (cE y) (cE z);rcases h1 with h1|h1|h1
  ·omega
  ·rw[aCX h1]at q;omega
  ·rcases h2 with h2|h2|h2
   ·omega
   ·rw[←aCX h2]at q;omega
   ·have:=aBd (show iK (cE z) (cE y)= -1 by omega) (show iK (cE y) (cE x)= -1 by omega)
    have a3:=tB (cE x) (cE z);omega
theorem aIq{x y:Txt}(h:ltN x y=false)(k:ltN y x=false):x=y:=by
 unfold ltN at *;rw[zA1]at *;have:=tB (cE x) (cE y);exact aFx (aCX (by omega))
def zG(l:List Txt):List Txt:=l.mergeSort fun x y=> !ltN y x
theorem aSi(a b c:Txt):(!ltN b a)=true→(!ltN c b)=true→(!ltN c a)=true:=by
 simp only[zA4];exact fun h k=>tC.ntrans c b a k h
theorem aOe(a b:Txt):((!ltN b a)||(!ltN a b))=true:=by
 cases h:ltN b a with
 |false=>rfl
 |true=>
  cases k:ltN a b with
  |false=>rfl
  |true=>have:=tC.trans _ _ _ h k;rw[tC.irrefl]at this;cases this
theorem qC(l:List Txt):(zG l).Perm l:=List.mergeSort_perm ..
theorem aCZ(l:List Txt):(zG l).Pairwise fun x y=>(!ltN y x)=true:=List.pairwise_mergeSort aSi aOe l
theorem aFy{a l:List Txt}(hs:a.Pairwise fun x y=>(!ltN y x)=true)(hp:a.Perm l):a=zG l:=
 List.Perm.eq_of_pairwise (fun x y _ _ h k=>aIq (by simpa using k) (by simpa using h)) hs (aCZ l) (hp.trans (qC l).symm)
structure Itm where
 path:Txt
 id:Int
 data:Txt
deriving DecidableEq,Inhabited
def itA(x:Itm):AV:=.agg [.str x.path,.int .i64 x.id,.str x.data]
@[go_sem] theorem aXK(x:Itm):Pur (itA x)=True:=by simp only[itA,go_sem]
def aKG(l:List Nd)(dir:Int):List Txt:=if chk l=true then zG ((dD l dir).map (·.1))else[]
def aVJ(l:List Nd)(dir:Int):List Int:=dir::kM l dir
def rJ(l:List Nd)(out:List Int):Nat→Int→Txt→List Itm
 |0,_,_=>[]
 |k+1,dir,path=>(zG (((dD l dir).filter fun p=> !out.contains p.2.id).map (·.1))).flatMap fun s=>match dB s (dD l dir)with
  |some n=>⟨path++(47::s),n.id,n.data⟩::(if dirI n.id=true then rJ l out k n.id (path++(47::s))else[])
  |none=>[]
def iL(l:List Nd)(dir:Int):List Itm:=if chk l=true then rJ l (aVJ l dir) (l.length+1) dir []else[]
def lookI(p:Txt)(l:List Itm):Option Itm:=l.reverse.find? fun x=>decide (x.path=p)
def aEb(is:List Itm)(t:Itm):Bool:=match lookI t.path is with|some n=> !decide (n.id=t.id)|none=>true
def aKH(was:List Itm)(t:Itm):Bool:=match lookI t.path was with|some o=>decide (o.id=t.id)&& !decide (o.data=t.data)|none=>false
def aCj(was is:List Itm):List Evt:=
 ((was.reverse.filter (aEb is)).map fun t=>⟨1,t.path⟩)++((is.filter (aEb was)).map fun t=>⟨2,t.path⟩)++((is.filter (aKH was)).map fun t=>⟨3,t.path⟩)
def tO(e:List Evt)(over:Bool)(l:List Evt):List Evt×Bool:=
 if over=true then(e,true)else if 8-e.length<l.length then(e++l.take (8-e.length)++[⟨9,[]⟩],true)else(e++l,false)
end
section
structure Snp where
 n:Int
 nodes:List Nd
deriving DecidableEq,Inhabited
structure Wch where
 n:Int
 dir:Int
 evs:List Evt
 over:Bool
deriving DecidableEq,Inhabited
structure Mdl where
 log:Lg
 seen:Int
 rep:Int
 snaps:List Snp
 watches:List Wch
 next:Int
deriving DecidableEq,Inhabited
def iG(s:Snp):AV:=.agg [.int .i64 s.n,.sl false (s.nodes.map ndA)]
def dJ(w:Wch):AV:=.agg [.int .i64 w.n,.int .i64 w.dir,.sl false (w.evs.map fF),.bool w.over]
def mdF(e n s w:AV)(m:Mdl):AV:=.agg [e,n,.int .i64 m.seen,.int .i64 m.rep,s,w,.int .i64 m.next]
def mdA(f1 f2 f3 f4:Bool)(m:Mdl):AV:=mdF (.sl f1 (m.log.entries.map iB)) (.sl f2 (m.log.nodes.map ndA)) (.sl f3 (m.snaps.map iG)) (.sl f4 (m.watches.map dJ)) m
@[go_sem] theorem aXL(x:Snp):Pur (iG x)=True:=by simp only[iG,go_sem]
@[go_sem] theorem aXM(x:Wch):Pur (dJ x)=True:=by simp only[dJ,go_sem]
@[go_sem] theorem aXN(f1 f2 f3 f4:Bool)(x:Mdl):Pur (mdA f1 f2 f3 f4 x)=True:=by simp only[mdA,mdF,go_sem]
def md0:Mdl:=⟨⟨[],[]⟩,0,0,[],[],0⟩
def idI(a b:Int)(d:Bool):Int:=if okI a b=true then 128 * a+2 * b+(if d then 1 else 0)else-1
def oJ(a b:Int):Bool:=decide (0≤a)&&decide (a<1048576)&&decide (0≤b)&&decide (b≤63)
theorem rL{a b:Int}:oJ a b=true↔0≤a∧a<1048576∧0≤b∧b≤63:=by
 simp[oJ,and_assoc]
def kX(n:Int)(s:Stm):Int:=if okI s.c s.r=true then max n s.c else n
def rM(n:Int)(first:Bool):Txt→Option (Int×Txt)
 |[]=>none
 |x::r=>if(first&&decide ((x.toNat:Int)=128)||decide (72057594037927935<n))=true then none
  else if(x.toNat:Int)<128 then some (n * 128+x.toNat,r)else rM (n * 128+((x.toNat:Int)-128)) false r
def cZ(b:Txt):Option (Int×Txt):=rM 0 true b
def rN(b:Txt):Option (Txt×Txt):=match cZ b with
 |none=>none
 |some (n,r)=>if(r.length:Int)<n then none else some (r.take n.toNat,r.drop n.toNat)
def qR(b:Txt):Option (Opn×Txt):=
 (cZ b).bind fun(c,b1)=>(cZ b1).bind fun(r,b2)=>(cZ b2).bind fun(k,b3)=>(cZ b3).bind fun(nd,b4)=>
  if k=1 then(cZ b4).bind fun(p,b5)=>(rN b5).bind fun(t,b6)=>if opOk ⟨⟨c,r⟩,k,nd,p,t,[]⟩=true then some (⟨⟨c,r⟩,k,nd,p,t,[]⟩,b6)else none
  else(rN b4).bind fun(t,b6)=>if opOk ⟨⟨c,r⟩,k,nd,0,[],t⟩=true then some (⟨⟨c,r⟩,k,nd,0,[],t⟩,b6)else none
def nL:Nat→Txt→Option (List Opn)
 |0,b=>if b=[]then some []else none
 |k+1,b=>if b=[]then some []else(qR b).bind fun(o,r)=>(nL k r).map (o::·)
def readO(b:Txt):Option (List Opn):=nL b.length b
structure Dsk where
 m:Mdl
 a:Ans
 ops:List Opn
deriving DecidableEq,Inhabited
def nextD(m:Mdl):Stm×Int:=if oJ m.seen m.rep=false then(st0,20)else if(200:Int)≤(m.log.entries.length:Int)then(st0,193)else(⟨m.seen+1,m.rep⟩,0)
def rO(d:Dsk)(o:Opn):Int×Dsk:=if xP d.m.log o=0 then(0,{d with m:={d.m with log:=fJ d.m.log o},ops:=d.ops++[o]})else(xP d.m.log o,d)
def aBe(d:Dsk)(o:Opn):Int×Dsk:=
 if(nextD d.m).2=0 then
  (if(rO d {o with at_:=(nextD d.m).1}).1=0 then(0,{(rO d {o with at_:=(nextD d.m).1}).2 with m:={(rO d {o with at_:=(nextD d.m).1}).2.m with seen:=(nextD d.m).1.c}})
  else rO d {o with at_:=(nextD d.m).1})
 else((nextD d.m).2,d)
def rQ(m:Mdl)(h:Int):Option (List Nd):=if h=0 then some m.log.nodes else(m.snaps.find? fun s=>decide (s.n=h)).map (·.nodes)
def qD(l:List Nd)(p:Txt):Int×Int:=match bM p with
 |none=>(0,10)
 |some ns=>findN l ns
def abvN(l:List Nd)(p:Txt):Int×Txt×Int:=match bM p with
 |none=>(0,[],10)
 |some []=>(0,[],194)
 |some (x::xs)=>if(findN l (x::xs).dropLast).2=0 then(if dirI (findN l (x::xs).dropLast).1=true then((findN l (x::xs).dropLast).1,(x::xs).getLast (by simp),0)else(0,[],81))else(0,[],(findN l (x::xs).dropLast).2)
def aEc(c:Cal)(d:Dsk):Int×Dsk:=
 if c.path=[47]then(194,d)else
 if(abvN d.m.log.nodes c.path).2.2=0 then
  (if(childN d.m.log.nodes (abvN d.m.log.nodes c.path).1 (abvN d.m.log.nodes c.path).2.1).isSome=true then(190,d)else
   if(nextD d.m).2=0 then aBe d ⟨st0,1,idI (nextD d.m).1.c (nextD d.m).1.r (decide (c.kind=1)),(abvN d.m.log.nodes c.path).1,(abvN d.m.log.nodes c.path).2.1,[]⟩else((nextD d.m).2,d))
 else((abvN d.m.log.nodes c.path).2.2,d)
def aBf(c:Cal)(d:Dsk):Int×Dsk:=
 if(qD d.m.log.nodes c.path).2=0 then(if dirI (qD d.m.log.nodes c.path).1=true then(82,d)else aBe d ⟨st0,2,(qD d.m.log.nodes c.path).1,0,[],c.data⟩)
 else((qD d.m.log.nodes c.path).2,d)
def aGY(c:Cal)(d:Dsk):Int×Dsk:=match rQ d.m c.n with
 |none=>(191,d)
 |some l=>if(qD l c.path).2=0 then(if dirI (qD l c.path).1=true then(82,d)else(0,{d with a:={d.a with data:=((findI l (qD l c.path).1).getD nd0).data}}))else((qD l c.path).2,d)
def lsD(c:Cal)(d:Dsk):Int×Dsk:=match rQ d.m c.n with
 |none=>(191,d)
 |some l=>if(qD l c.path).2=0 then(if dirI (qD l c.path).1=true then(0,{d with a:={d.a with names:=aKG l (qD l c.path).1}})else(81,d))else((qD l c.path).2,d)
def aEd(c:Cal)(d:Dsk):Int×Dsk:=
 if c.path=[47]∨c.to=[47]then(194,d)else
 if(qD d.m.log.nodes c.path).2=0 then
  (if(abvN d.m.log.nodes c.to).2.2=0 then
   (if(childN d.m.log.nodes (abvN d.m.log.nodes c.to).1 (abvN d.m.log.nodes c.to).2.1).isSome=true then(190,d)else
    if(abvN d.m.log.nodes c.to).1=(qD d.m.log.nodes c.path).1∨(kM d.m.log.nodes (abvN d.m.log.nodes c.to).1).contains (qD d.m.log.nodes c.path).1=true then(192,d)
    else aBe d ⟨st0,1,(qD d.m.log.nodes c.path).1,(abvN d.m.log.nodes c.to).1,(abvN d.m.log.nodes c.to).2.1,[]⟩)
  else((abvN d.m.log.nodes c.to).2.2,d))
 else((qD d.m.log.nodes c.path).2,d)
def vU(c:Cal)(d:Dsk):Int×Dsk:=
 if c.path=[47]then(194,d)else
 if(qD d.m.log.nodes c.path).2=0 then
  (match bM c.path with
  |some (x::xs)=>aBe d ⟨st0,1,(qD d.m.log.nodes c.path).1,2,(x::xs).getLast (by simp),[]⟩
  |_=>(194,d))
 else((qD d.m.log.nodes c.path).2,d)
def aCk(d:Dsk):Int×Dsk:=
 if(8:Int)≤(d.m.snaps.length:Int)then(193,d)else(0,{d with a:={d.a with n:=d.m.next},m:={d.m with snaps:=d.m.snaps++[⟨d.m.next,d.m.log.nodes⟩],next:=IntKind.i64.wrap (d.m.next+1)}})
def aCl(c:Cal)(d:Dsk):Int×Dsk:=
 if(!(d.m.snaps.any fun s=>decide (s.n=c.n))&& !(d.m.watches.any fun w=>decide (w.n=c.n)))=true then(191,d)
 else(0,{d with m:={d.m with snaps:=d.m.snaps.filter (fun s=> !decide (s.n=c.n)),watches:=d.m.watches.filter (fun w=> !decide (w.n=c.n))}})
def xS(c:Cal)(d:Dsk):Int×Dsk:=
 if(qD d.m.log.nodes c.path).2=0 then
  (if dirI (qD d.m.log.nodes c.path).1=true then
   (if(8:Int)≤(d.m.watches.length:Int)then(193,d)else(0,{d with a:={d.a with n:=d.m.next},m:={d.m with watches:=d.m.watches++[⟨d.m.next,(qD d.m.log.nodes c.path).1,[],false⟩],next:=IntKind.i64.wrap (d.m.next+1)}}))
  else(81,d))
 else((qD d.m.log.nodes c.path).2,d)
def qE(n:Int):List Wch→List Wch
 |[]=>[]
 |w::l=>if w.n=n then{w with evs:=[]}::l else w::qE n l
def aCm(c:Cal)(d:Dsk):Int×Dsk:=match d.m.watches.find? fun w=>decide (w.n=c.n)with
 |none=>(191,d)
 |some w=>(0,{d with a:={d.a with events:=w.evs},m:={d.m with watches:=qE c.n d.m.watches}})
def freshN(g:Lg):List Opn→List Opn→List Opn
 |acc,[]=>acc
 |acc,o::l=>freshN g (if(!lO g.entries o.at_&& !(acc.any fun f=>decide (f.at_=o.at_)))=true then acc++[o]else acc) l
def jZ(d:Dsk):List Opn→Int×Dsk
 |[]=>(0,d)
 |o::l=>if(rO d o).1=0 then jZ (rO d o).2 l else rO d o
def xT(c:Cal)(d:Dsk):Int×Dsk:=match readO c.data with
 |none=>(50,d)
 |some l=>
  if(200:Int)<(d.m.log.entries.length:Int)+((freshN d.m.log [] l).length:Int)then(193,d)else
  if(jZ d (freshN d.m.log [] l)).1=0 then
   (0,{(jZ d (freshN d.m.log [] l)).2 with a:={(jZ d (freshN d.m.log [] l)).2.a with n:=(freshN d.m.log [] l).length},m:={(jZ d (freshN d.m.log [] l)).2.m with seen:=l.foldl (fun n o=>kX n o.at_) d.m.seen}})
  else jZ d (freshN d.m.log [] l)
def jE(c:Cal)(d:Dsk):Int×Dsk:=
 if c.kind=1∨c.kind=2 then aEc c d else if c.kind=3 then aBf c d else if c.kind=4 then aGY c d else if c.kind=5 then aEd c d else if c.kind=6 then vU c d
 else if c.kind=7 then lsD c d else if c.kind=8 then aCk d else if c.kind=9 then aCl c d else if c.kind=10 then xS c d else if c.kind=11 then aCm c d
 else if c.kind=12 then(0,d)else xT c d
def aKI(was is:List Nd)(w:Wch):Wch:={w with evs:=(tO w.evs w.over (aCj (iL was w.dir) (iL is w.dir))).1,over:=(tO w.evs w.over (aCj (iL was w.dir) (iL is w.dir))).2}
def zH(was:List Nd)(d:Dsk):Dsk:={d with m:={d.m with watches:=d.m.watches.map (aKI was d.m.log.nodes)}}
end
section
theorem aFz{l:List Nd}{o:Opn}(h:refused l o=true):doL l o=l∧xN l o=aRR:=by rw[doL,xN,zAl h,zAl h];exact⟨rfl,rfl⟩
theorem aKJ{l:List Nd}{o:Opn}(h:chk l=false):refused l o=true:=by simp[refused,h]
theorem aAt(l:List Nd)(o:Opn):chk (doL l o)=chk l:=by
 cases hc:chk l with
 |true=>exact aFo o hc
 |false=>rw[(aFz (o:=o) (aKJ hc)).1,hc]
theorem aGZ{l:List Nd}(hs:chk l=true)(n:Nd)(id:Int):fnd (vL l n) id=if id=n.id then some n else fnd l id:=by
 obtain⟨A,B,hA,hB,eA,eB,h⟩:=vM hs n.id;rw[aFn n eA eB];by_cases hid:id=n.id
 ·rw[zAl hid];exact sY (fun x hx=>by rw[hid];exact hA x hx) hid.symm
 ·rw[zAe hid];have key:∀m:Nd,m.id=n.id→fnd (A++m::B) id=fnd (A++B) id:=by
   intro m hm;unfold fnd;rw[List.find?_append,List.find?_append,List.find?_cons,zAg (by rw[hm];exact fun e=>hid e.symm)]
  rcases h with⟨h,_⟩|⟨m,hm,h,_⟩
  ·conv=>rhs;rw[h]
   exact key n rfl
  ·conv=>rhs;rw[h]
   rw[key m hm];exact key n rfl
theorem lU{l:List Nd}{o:Opn}(hk:o.kind=1):cA l o=⟨(eK l o).id,o.parent,o.name,o.at_,((fnd l o.node).getD nd0).data,((fnd l o.node).getD nd0).wrote⟩:=by
 unfold cA eK;rw[zAl hk];cases fnd l o.node<;>rfl
theorem tU{l:List Nd}{o:Opn}(hk:o.kind=2):cA l o=⟨(eK l o).id,if(fnd l o.node).isSome=true then((fnd l o.node).getD nd0).parent else-1,((fnd l o.node).getD nd0).name,((fnd l o.node).getD nd0).moved,o.data,o.at_⟩:=by
 unfold cA eK;rw[zAe (by omega)]
 cases fnd l o.node<;>rfl
end
section
def par(l:List Nd)(id:Int):Option Int:=match fnd l id with|none=>none|some n=>if n.parent= -1 then none else some n.parent
theorem cF(l:List Nd)(k:Nat)(id:Int):dI l (k+1) id=match par l id with|none=>[]|some p=>p::dI l k p:=by
 grind [dI,par,fnd,id]
theorem aEe(l:List Nd)(k j:Nat)(id:Int):dI l k id=(dI l (k+j) id).take k:=by
 induction k generalizing id with
 |zero=>rfl
 |succ k ih=>
  rw[Nat.succ_add,cF,cF];grind
def Wfr(l:List Nd):Prop:=∃r:Int→Nat,∀x p,par l x=some p→r p<r x
def aEf(l:List Nd):Nat→Int→List Int
 |0,_=>[]
 |k+1,id=>match par l id with|none=>[]|some p=>id::aEf l k p
theorem aKK(l:List Nd)(k:Nat)(id:Int):(aEf l k id).length=(dI l k id).length:=by
 induction k generalizing id with
 |zero=>rfl
 |succ k ih=>
  rw[cF,aEf];grind
theorem aKL(l:List Nd)(k:Nat)(id:Int):∀x∈aEf l k id,x∈l.map Nd.id:=by
 induction k generalizing id<;>grind [id,aEf,par,zAs,fnd,zAT,zBz,zAm]
theorem aIs{l:List Nd}{r:Int→Nat}(hr:∀x p,par l x=some p→r p<r x)(k:Nat)(id:Int):(∀x∈aEf l k id,r x≤r id)∧(aEf l k id).Nodup:=by
 induction k generalizing id with
 |zero=>exact⟨fun x hx=>(by cases hx),List.nodup_nil⟩
 |succ k ih=>
  rw[aEf];grind
theorem aFA{l:List Nd}{r:Int→Nat}(hr:∀x p,par l x=some p→r p<r x)(k:Nat)(id:Int):∀x∈dI l k id,r x<r id:=by
 induction k generalizing id with
 |zero=>intro x hx;cases hx
 |succ k ih=>
  intro x hx;rw[cF]at hx;grind
theorem aSj{xs ys:List Int}(hn:xs.Nodup)(hs:∀x∈xs,x∈ys):xs.length≤ys.length:=by
 induction xs generalizing ys with
 |nil=>exact zAo _
 |cons x xs ih=>
  have hx:=hs x (by simp)
  have h:=ih (ys:=ys.erase x) (zB8.1 hn).2 (fun z hz=>by
   grind)
  grind
theorem aCn{l:List Nd}(h:Wfr l)(k:Nat)(id:Int):(dI l k id).length≤l.length:=by
 obtain⟨r,hr⟩:=h;have:=aSj (aIs hr k id).2 (aKL l k id);rwa[aKK,zAn]at this
theorem kN{l:List Nd}(h:Wfr l){k:Nat}(hk:l.length≤k)(id:Int):dI l k id=cN l id:=by
 obtain⟨j,rfl⟩:∃j,k=l.length+j:=⟨k-l.length,by omega⟩
 rw[cN,aEe l l.length j id,List.take_of_length_le (aCn h _ _)]
theorem aFB(l:List Nd)(k:Nat)(id:Int):∀y∈id::dI l k id,∀p,par l y=some p→p∈dI l (k+1) id:=by
 induction k generalizing id with
 |zero=>
  intro y hy p hp;simp only[dI,zAs,zAH,zBv]at hy;subst hy;rw[cF,hp];simp
 |succ k ih=>
  intro y hy p hp;rcases zAs.1 hy with rfl|hy
  ·rw[cF,hp];simp
  ·rw[cF]at hy;rw[cF];cases hq:par l id with
   |none=>rw[hq]at hy;cases hy
   |some q=>
    grind
theorem aC0{l:List Nd}(h:Wfr l)(id:Int):∀y∈id::cN l id,∀p,par l y=some p→p∈cN l id:=by
 intro y hy p hp;have:=aFB l l.length id y hy p hp;rwa[kN h (zBO _)]at this
theorem aCo{l:List Nd}{C:Int→Prop}(hc:∀y,C y→∀p,par l y=some p→C p)(k:Nat)(id:Int)(hi:C id):∀x∈dI l k id,C x:=by
 induction k generalizing id with
 |zero=>intro x hx;cases hx
 |succ k ih=>
  intro x hx;rw[cF]at hx;grind
theorem aUo{l:List Nd}(h:Wfr l)(id:Int):id∉cN l id:=by
 obtain⟨r,hr⟩:=h;intro hx;have:=aFA hr _ _ _ hx;omega
theorem aBg{l a:List Nd}{C:Int→Prop}(hc:∀y,C y→∀p,par l y=some p→C p)(he:∀y,C y→par a y=par l y)(k:Nat)(id:Int)(hi:C id):dI a k id=dI l k id:=by
 induction k generalizing id with
 |zero=>rfl
 |succ k ih=>
  rw[cF,cF,he id hi];grind
theorem aCp{l:List Nd}{o:Opn}(hs:chk l=true)(hr:refused l o=false)(hk:o.kind=2)(x:Int):par (doL l o) x=par l x:=by
 grind [par,kP,aGZ,jC,tU,fnd]
theorem aKM{l:List Nd}{o:Opn}(hs:chk l=true)(hr:refused l o=false)(hk:o.kind=1)(hp:o.parent≠ -1)(x:Int):par (doL l o) x=if x=o.node then some o.parent else par l x:=by
 grind [par,kP,aGZ,jC,lU]
theorem aC1{o:Opn}(h:opOk o=true):o.kind=1∨o.kind=2:=by
 unfold opOk at h;simp only[zAu,zB9,zAF]at h;exact h.1.1.1
theorem aG0{n:Int}(h:dirI n=true):n≠ -1:=by
 intro e;subst e;revert h;decide
theorem aKN{o:Opn}(h:opOk o=true)(hk:o.kind=1):dirI o.parent=true:=by
 grind [opOk,vI]
theorem aQv{l:List Nd}{o:Opn}(h:refused l o=false):chk l=true∧opOk o=true∧(o.kind=1→lL l o=false):=by
 unfold refused at h;grind
theorem aOf{l:List Nd}{o:Opn}(h:lL l o=false):o.node∉o.parent::cN l o.parent:=by
 grind [lL,zB6,zA1,zCa,zAs]
theorem aVK{l:List Nd}(o:Opn)(hs:chk l=true)(h:Wfr l):Wfr (doL l o):=by
 cases hr:refused l o with
 |true=>rw[(aFz hr).1];exact h
 |false=>
  obtain⟨-,hok,hlo⟩:=aQv hr;rcases aC1 hok with hk|hk
  ·have hno:=aOf (hlo hk);have hpar:=aKM hs hr hk (aG0 (aKN hok hk));obtain⟨r,hr'⟩:=id h;have hdesc:∀x p,x≠o.node→par l x=some p→(o.node∈x::cN l x↔o.node∈p::cN l p):=by
    intro x p hx hp;have hcl:=aC0 h x;have hpx:p∈cN l x:=hcl x (by simp) p hp
    constructor
    ·intro hm;rcases zAs.1 hm with e|hm
     ·exact absurd e.symm hx
     ·have hm2:o.node∈dI l (l.length+1) x:=by rw[kN h (zBO _)];exact hm
      rw[cF,hp]at hm2;exact hm2
    ·intro hm;refine zAR _ ?_;rcases zAs.1 hm with e|hm
     ·rw[e];exact hpx
     ·exact aCo (C:=fun y=>y∈cN l x) (fun y hy q hq=>hcl y (zAR _ hy) q hq) _ p hpx _ hm
   refine⟨fun x=>if o.node∈x::cN l x then r x+r o.parent+1 else r x,fun x p hxp=>?_⟩
   grind
  ·obtain⟨r,hr'⟩:=h;exact⟨r,fun x p hp=>hr' x p (by rw[aCp hs hr hk]at hp;exact hp)⟩
structure Frs (l:List Nd):Prop where
 chk:chk l=true
 wf:Wfr l
 dir:∀n∈l,n.parent= -1∨dirI n.parent=true
theorem aOg:Frs []:=⟨rfl,⟨fun _=>0,fun x p h=>by cases h⟩,fun n h=>by cases h⟩
theorem aG1{l:List Nd}{n x:Nd}(h:x∈vL l n):x=n∨x∈l:=by
 grind [vL,oI,zAr,zAy]
theorem aSk{l:List Nd}(o:Opn)(h:Frs l):Frs (doL l o):=by
 refine⟨aFo o h.chk,aVK o h.chk h.wf,?_⟩;cases hr:refused l o with
 |true=>rw[(aFz hr).1];exact h.dir
 |false=>
  obtain⟨-,hok, -⟩:=aQv hr;intro n hn;rw[kP hr]at hn;rcases aG1 hn with rfl|hn
  ·rcases aC1 hok with hk|hk
   ·rw[lU hk];exact .inr (aKN hok hk)
   ·rw[tU hk];simp only;cases hf:fnd l o.node with
    |none=>exact .inl rfl
    |some m=>exact h.dir m (zAT hf)
  ·exact h.dir n hn
theorem aIt(s:List Opn){l:List Nd}(h:Frs l):Frs (s.foldl doL l):=by
 induction s generalizing l with
 |nil=>exact h
 |cons o s ih=>exact ih (aSk o h)
theorem aG2{l:List Nd}(hs:chk l=true){n:Nd}(hn:n∈l):fnd l n.id=some n:=by
 have hp:=((nH l).1 hs).2;cases h:fnd l n.id with
 |none=>
  have:=zBi.1 h n hn;simp at this
 |some m=>
  have h1:=zAT h;have h2:m.id=n.id:=by have:=zBz h;simpa using this
  obtain⟨i,hi,rfl⟩:=List.getElem_of_mem h1;obtain⟨j,hj,rfl⟩:=List.getElem_of_mem hn;rcases Nat.lt_trichotomy i j with q|q|q
  ·have:=zBR.1 hp i j hi hj q;omega
  ·subst q;rfl
  ·have:=zBR.1 hp j i hj hi q;omega
end
section
theorem aFC{s:Txt}{n:Nd}(hn:n.name=s){m:List (Txt×Nd)}(h:∀p∈m,p.2.name=p.1):∀p∈iR s n m,p.2.name=p.1:=by
 induction m<;>grind [iR,zAq]
theorem aIu(s:Txt)(n:Nd)(m:List (Txt×Nd)):((iR s n m).map (·.1))=if s∈m.map (·.1)then m.map (·.1)else m.map (·.1)++[s]:=by
 induction m<;>grind [iR]
theorem aFD{s:Txt}{n:Nd}{m:List (Txt×Nd)}(h:(m.map (·.1)).Nodup):((iR s n m).map (·.1)).Nodup:=by
 rw[aIu];grind
theorem aKO{m:List (Txt×Nd)}(n:Nd)(h:(m.map (·.1)).Nodup∧∀p∈m,p.2.name=p.1):((xO m n).map (·.1)).Nodup∧∀p∈xO m n,p.2.name=p.1:=by
 have hs:((iR n.name n m).map (·.1)).Nodup∧∀p∈iR n.name n m,p.2.name=p.1:=⟨aFD h.1,aFC rfl h.2⟩;unfold xO;grind
theorem xU(l:List Nd)(dir:Int):((dD l dir).map (·.1)).Nodup∧∀p∈dD l dir,p.2.name=p.1:=by
 suffices h:∀(k:List Nd) (m:List (Txt×Nd)),((m.map (·.1)).Nodup∧∀p∈m,p.2.name=p.1)→((k.foldl (qV dir) m).map (·.1)).Nodup∧∀p∈k.foldl (qV dir) m,p.2.name=p.1 from
  h l [] ⟨List.nodup_nil,fun p hp=>by cases hp⟩
 intro k;induction k with
 |nil=>exact fun m h=>h
 |cons x k ih=>
  intro m h;refine ih _ ?_;unfold qV;split
  ·exact aKO x h
  ·exact h
theorem aKP{s:Txt}{n:Nd}{m:List (Txt×Nd)}(hn:(m.map (·.1)).Nodup)(h:(s,n)∈m):dB s m=some n:=by
 induction m<;>grind [zAw,zB8,dB]
theorem aKQ{s:Txt}{n:Nd}{m:List (Txt×Nd)}(h:dB s m=some n):(s,n)∈m:=by
 induction m<;>grind [dB]
theorem aFE{m:List (Txt×Nd)}(hn:(m.map (·.1)).Nodup)(p:Txt×Nd→Bool):((m.filter p).map (·.1)).Nodup:=
 List.Nodup.sublist (List.Sublist.map _ List.filter_sublist) hn
def dep(l:List Nd)(x:Int):Nat:=(cN l x).length
theorem xV{l:List Nd}(h:Wfr l){x p:Int}(hp:par l x=some p):cN l x=p::cN l p:=by
 rw[←kN h (zBO _) x,cF,hp];rfl
theorem aAu{l:List Nd}(h:Wfr l){x p:Int}(hp:par l x=some p):dep l x=dep l p+1:=by
 rw[dep,xV h hp];rfl
theorem aC2{l:List Nd}(h:Wfr l)(x:Int):dep l x≤l.length:=aCn h _ _
theorem aKR{l:List Nd}(h:Wfr l):∀(j:Nat) {q w:Int},dep l q=j→w∈cN l q→dep l w<dep l q:=by
 intro j;induction j with
 |zero=>grind [dep,zAE]
 |succ j ihj=>
  intro q w hj hw;cases hq:par l q with
  |none=>
   have:cN l q=[]:=by rw[←kN h (zBO _) q,cF,hq]
   rw[this]at hw;cases hw
  |some r=>
   have hd:=aAu h hq;rw[xV h hq]at hw;grind
theorem aWM{l:List Nd}(h:Wfr l):∀(k:Nat) {x y z:Int},dep l x=k→y∈cN l x→z∈cN l x→dep l y=dep l z→y=z:=by
 intro k;induction k with
 |zero=>grind [dep,zAE]
 |succ k ih=>
  intro x y z hk hy hz he;cases hp:par l x with
  |none=>
   have:cN l x=[]:=by rw[←kN h (zBO _) x,cF,hp]
   rw[this]at hy;cases hy
  |some p=>
   have e:=xV h hp;have hkp:dep l p=k:=by have:=aAu h hp;omega
   have lt:∀{w:Int},w∈cN l p→dep l w<dep l p:=fun hw=>aKR h _ rfl hw
   grind
theorem aEg{l:List Nd}(hc:chk l=true){dir:Int}(hd:dirI dir=true){s:Txt}{n:Nd}(h:(s,n)∈dD l dir):par l n.id=some dir∧n∈l∧fnd l n.id=some n:=by
 obtain⟨h1,h2⟩:=aCh l dir _ h;have hf:=aG2 hc h1;simp only at h1 h2 hf;unfold inD at h2;rw[zAu,zAF]at h2;refine⟨?_,h1,hf⟩;rw[par,hf];simp only;rw[zAe (by rw[h2.1];exact aG0 hd),h2.1]
theorem aCr{l:List Nd}{dir:Int}{s:Txt}{n:Nd}(h:dB s (dD l dir)=some n):(s,n)∈dD l dir:=aKQ h
def aC3(l:List Nd)(out:List Int)(dir:Int):List Txt:=zG (((dD l dir).filter fun p=> !out.contains p.2.id).map (·.1))
theorem aEh{l:List Nd}(hc:chk l=true)(h:Wfr l)(out:List Int):∀(k j:Nat) (dir:Int) (path:Txt),dirI dir=true→l.length<k+dep l dir→l.length<j+dep l dir→rJ l out k dir path=rJ l out j dir path:=by
 intro k;induction k with
 |zero=>intro j dir path _ hk;have:=aC2 h dir;omega
 |succ k ih=>
  intro j dir path hd hk hj;cases j with
  |zero=>have:=aC2 h dir;omega
  |succ j=>
   rw[rJ,rJ];congr 1;funext s;cases hl:dB s (dD l dir)with
   |none=>rfl
   |some n=>
    have hp:=(aEg hc hd (aCr hl)).1;have hdp:=aAu h hp;grind
def blw(l:List Nd)(out:List Int)(dir:Int)(path:Txt):List Itm:=rJ l out (l.length+1) dir path
def aKS(l:List Nd)(out:List Int)(dir:Int)(path:Txt)(s:Txt):List Itm:=match dB s (dD l dir)with
 |some n=>⟨path++(47::s),n.id,n.data⟩::(if dirI n.id=true then blw l out n.id (path++(47::s))else[])
 |none=>[]
theorem aKT{l:List Nd}(hc:chk l=true)(h:Wfr l)(out:List Int){dir:Int}(hd:dirI dir=true)(path:Txt):blw l out dir path=(aC3 l out dir).flatMap (aKS l out dir path):=by
 rw[blw,rJ];unfold aC3;congr 1;funext s;unfold aKS;cases hl:dB s (dD l dir)with
 |none=>rfl
 |some n=>
  have hp:=(aEg hc hd (aCr hl)).1;have hdp:=aAu h hp;simp only;by_cases hdn:dirI n.id=true
  ·rw[zAl hdn,zAl hdn,blw,aEh hc h out l.length (l.length+1) n.id _ hdn (by omega) (by omega)]
  ·rw[zAe hdn,zAe hdn]
theorem aSl{l:List Nd}{out:List Int}{dir:Int}{s:Txt}(h:s∈aC3 l out dir):∃n,dB s (dD l dir)=some n∧(s,n)∈dD l dir∧out.contains n.id=false:=by
 have h1:=(qC _).mem_iff.1 h;obtain⟨p,hp,rfl⟩:=zAm.1 h1;obtain⟨h2,h3⟩:=zBb.1 hp;exact⟨p.2,aKP (xU l dir).1 h2,h2,by simpa using h3⟩
theorem aOh(l:List Nd)(out:List Int)(dir:Int):(aC3 l out dir).Nodup:=(qC _).nodup_iff.2 (aFE (xU l dir).1 _)
theorem aWN{l:List Nd}(hc:chk l=true)(h:Wfr l)(out:List Int):∀(k:Nat) (dir:Int) (path:Txt),dirI dir=true→l.length<k+dep l dir→
  ((blw l out dir path).map (·.id)).Nodup∧∀x∈(blw l out dir path).map (·.id),x∈l.map Nd.id∧dir∈cN l x:=by
 intro k;induction k with
 |zero=>intro dir path _ hk;have:=aC2 h dir;omega
 |succ k ih=>
  intro dir path hd hk;rw[aKT hc h out hd]
  -- the piece of one name
  have piece:∀s∈aC3 l out dir,∃n,(s,n)∈dD l dir∧((aKS l out dir path s).map (·.id)).Nodup∧
    ∀x∈(aKS l out dir path s).map (·.id),x∈l.map Nd.id∧dir∈cN l x∧(x=n.id∨n.id∈cN l x):=by
   intro s hs;obtain⟨n,hl,hm,_⟩:=aSl hs;obtain⟨hp,hnl,_⟩:=aEg hc hd hm;have hdp:=aAu h hp;have hin:n.id∈l.map Nd.id:=zAm.2 ⟨n,hnl,rfl⟩;have hab:dir∈cN l n.id:=by rw[xV h hp];simp
   refine⟨n,hm,?_⟩;unfold aKS;rw[hl];simp only;by_cases hdn:dirI n.id=true
   ·rw[zAl hdn];obtain⟨i1,i2⟩:=ih n.id (path++(47::s)) hdn (by omega)
    refine⟨?_,fun x hx=>?_⟩
    ·rw[zAw,zB8];refine⟨fun hx=>?_,i1⟩
     exact aUo h _ (i2 _ hx).2
    ·rw[zAw,zAs]at hx;rcases hx with rfl|hx
     ·exact⟨hin,hab,.inl rfl⟩
     ·obtain⟨j1,j2⟩:=i2 x hx;have:dir∈cN l x:=aC0 h x n.id (zAR _ j2) dir hp;exact⟨j1,this,.inr j2⟩
   ·rw[zAe hdn];exact⟨by simp,fun x hx=>by simp only[zAw,zAZ,zAq]at hx;subst hx;exact⟨hin,hab,.inl rfl⟩⟩
  have disj:∀s∈aC3 l out dir,∀t∈aC3 l out dir,s≠t→∀x∈(aKS l out dir path s).map (·.id),x∉(aKS l out dir path t).map (·.id):=by
   intro s hs t ht hne x hx hy;obtain⟨n,hm, -,k1⟩:=piece s hs;obtain⟨m,hm', -,k2⟩:=piece t ht;obtain⟨-, -,q1⟩:=k1 x hx;obtain⟨-, -,q2⟩:=k2 x hy;obtain⟨p1,l1,f1⟩:=aEg hc hd hm;obtain⟨p2,l2,f2⟩:=aEg hc hd hm';have d1:=aAu h p1;have d2:=aAu h p2;have hid:n.id≠m.id:=fun e=>by
    rw[e,f2]at f1;cases f1;have a:=(xU l dir).2 _ hm;have b:=(xU l dir).2 _ hm';exact hne (a.symm.trans b)
   rcases q1 with rfl|q1<;>rcases q2 with e2|q2
   ·exact hid e2
   ·have:=aKR h _ rfl q2;omega
   ·subst e2;have:=aKR h _ rfl q1;omega
   ·exact hid (aWM h _ rfl q1 q2 (by omega))
  refine⟨?_,fun x hx=>?_⟩
  ·rw[List.map_flatMap];rw[List.nodup_iff_pairwise_ne,List.pairwise_flatMap];refine⟨fun s hs=>?_,?_⟩
   ·obtain⟨_,_,k1,_⟩:=piece s hs;exact k1
   ·have hnd:=aOh l out dir;rw[List.nodup_iff_pairwise_ne]at hnd;exact(List.Pairwise.and_mem.1 hnd).imp fun{s t} ⟨hs,ht,hne⟩ x hx y hy e=>by subst e;exact disj s hs t ht hne x hx hy
  ·rw[List.map_flatMap,zBC]at hx;obtain⟨s,hs,hx⟩:=hx;obtain⟨_,_,_,k1⟩:=piece s hs;exact⟨(k1 x hx).1,(k1 x hx).2.1⟩
theorem aOi{l:List Nd}(hc:chk l=true)(h:Wfr l)(out:List Int)(dir:Int)(path:Txt)(hd:dirI dir=true):(blw l out dir path).length≤l.length:=by
 obtain⟨h1,h2⟩:=aWN hc h out (l.length+1) dir path hd (by omega)
 have:=aSj h1 (fun x hx=>(h2 x hx).1)
 simpa using this
end
section
def tw(c:Cal)(k:Int)(h:List Int)(d e:Bool):Thr:={th0 c with at_:=k,has:=h,done:=d,ended:=e}
theorem aVL{l:List Nd}(hF:Frs l){dir:Int}{s:Txt}{n:Nd}(hd:dirI dir=true)(h:childN l dir s=some n):n.id≠dir∧findI l n.id=some n:=by
 obtain⟨hc,hm,hp⟩:=oR h;have hf:=aG2 hc hm;refine⟨fun e=>?_,by rw[findI,zAl hc];exact hf⟩
 obtain⟨r,hr⟩:=hF.wf;have hpar:par l n.id=some dir:=by
  rw[par,hf];simp only[hp];rw[zAe (aG0 hd)]
 have:=hr _ _ hpar;rw[e]at this;omega
theorem aUp{x:Int}{xs:List Int}(h:x∉xs):(x::xs).filter (fun k=> !decide (k=x))=xs:=by
 rw[List.filter_cons_of_neg (by simp)]
 exact List.filter_eq_self.2 fun y hy=>by simp;exact fun e=>h (e▸hy)
theorem aUq{has:List Int}(ps:List Int)(rest:List Int)(h:∀y∈ps,y∈has):turnN has (ps++rest)=turnN has rest:=by
 induction ps with
 |nil=>rfl
 |cons p ps ih=>rw[zA0,aFu (by simp;exact h p (by simp))];exact ih fun y hy=>h y (by simp[hy])
theorem aEi{c:Cal}(h:turnsK c=true):walksK c=false:=by
 unfold turnsK at h;simp only[zB9,zAF]at h;unfold walksK;rcases h with(h|h)|h<;>rw[h]<;>rfl
theorem addD_nodup{ds:List Int}{o:Option Int}(h:ds.Nodup):(mL ds o).Nodup:=by
 unfold mL;split
 ·split
  ·exact h
  ·rename_i d hd;rw[List.nodup_append];refine⟨h,by simp,fun a ha b hb=>?_⟩
   simp at hb hd;subst hb;exact fun e=>hd (e▸ha)
 ·exact h
theorem addD_mem{ds:List Int}{o:Option Int}{x:Int}(h:x∈mL ds o):x∈ds∨o=some x:=by
 unfold mL at h;split at h
 ·split at h
  ·exact .inl h
  ·simp at h;rcases h with h|h
   ·exact .inl h
   ·exact .inr (by rw[h])
 ·exact .inl h
theorem dirOf_dir{l:List Nd}{p:Txt}{d:Int}(h:dG l p=some d):dirI d=true:=by
 unfold dG at h;split at h
 ·split at h
  ·rename_i q;cases h;exact q.2
  ·cases h
 ·cases h
theorem locksD_ok(l:List Nd)(c:Cal):(uH l c).Nodup∧∀x∈uH l c,∃p∈jD c,dG l p=some x:=by
 suffices h:∀(ps:List Txt) (ds:List Int),ds.Nodup→(∀x∈ds,∃p∈jD c,dG l p=some x)→(∀p∈ps,p∈jD c)→(ps.foldl (fun ds p=>mL ds (dG l p)) ds).Nodup∧∀x∈ps.foldl (fun ds p=>mL ds (dG l p)) ds,∃p∈jD c,dG l p=some x from
  h (jD c) [] List.nodup_nil (fun x hx=>by cases hx) (fun p hp=>hp)
 intro ps;induction ps with
 |nil=>intro ds h1 h2 _;exact⟨h1,h2⟩
 |cons p ps ih=>
  intro ds h1 h2 h3;refine ih _ (addD_nodup h1) (fun x hx=>?_) (fun q hq=>h3 q (by simp[hq]))
  rcases addD_mem hx with hx|hx
  ·exact h2 x hx
  ·exact⟨p,h3 p (by simp),hx⟩
theorem aQx(l:List Nd)(ds:List Int):(gZ l ds).Perm ds:=by
 unfold gZ;split
 ·split
  ·exact .swap _ _ _
  ·exact .refl _
 ·exact .refl _
theorem aC4(l:List Nd)(c:Cal):(locksT l c).Nodup:=by
 obtain⟨h1,h2⟩:=locksD_ok l c;rw[locksT,zB8];refine⟨fun h=>?_,(aQx l _).nodup_iff.2 h1⟩
 obtain⟨p,_,hp⟩:=h2 1 ((aQx l _).mem_iff.1 h);have:=dirOf_dir hp;revert this;decide
end
end Go.Proofs.YtennnelammaapaaGreatDoor
