/- The texts 17 of 51 beneath the rows of this seat (joined by program): the abstract machine, and what the functions answer. No condition. -/
import Derived.Test.YthhdnjiodklmmaaGreatDoorWorkAP
set_option linter.unusedSimpArgs false
set_option linter.unusedVariables false
set_option linter.unusedSectionVars false
/- What the functions of the logs answer: Add. No condition. -/
namespace Go.Aw
open Go
variable {P:Program}
def aEQ{ι:Type}(F:ι→AF)(Hp:ι→AHeap)(pre:ι→Prop)(Q:bP):bP
 |.normal,α,H=>∃y,pre y∧aC3 (F y) α∧H=Hp y
 |e,α,H=>Q e α H
section
variable {ι:Type} (F:ι→AF) (Hp:ι→AHeap) (pre:ι→Prop) (Q:bP) (α:AF) (H:AHeap)
@[go_sem] theorem aNV:aEQ F Hp pre Q .normal α H=∃y,pre y∧aC3 (F y) α∧H=Hp y:=rfl
@[go_sem] theorem aS2(i:Nat):aEQ F Hp pre Q (.exit i) α H=Q (.exit i) α H:=rfl
@[go_sem] theorem aUg:aEQ F Hp pre Q .ret α H=Q .ret α H:=rfl
end
theorem wN{N:Nat}{x y:Code}{Q:bP}{α:AF}{H:AHeap}{ι:Type}(F:ι→AF)(Hp:ι→AHeap)(pre:ι→Prop)(h1:aw P N x (aEQ F Hp pre Q) α H)(h2:∀i,pre i→aw P N y Q (F i) (Hp i)):aw P N (.seq x y) Q α H:=by
 refine aB7 (yK h1 fun e α' H' h=>?_)
 cases e with
 |normal=>
  obtain⟨i,hp,hs,rfl⟩:=h
  exact qZ (h2 i hp) (kI hs)
 |_=>exact h
theorem iC{N id:Nat}{x y:Code}{Q:bP}{α:AF}{H:AHeap}{ι:Type}(F:ι→AF)(Hp:ι→AHeap)(pre:ι→Prop)(h1:aw P N x (oM id (aEQ F Hp pre Q)) α H)(h2:∀i,pre i→aw P N y Q (F i) (Hp i)):aw P N x (oM id (zE P N y Q)) α H:=by
 refine yK h1 fun e α' H' h=>?_
 have key:aEQ F Hp pre Q .normal α' H'→zE P N y Q .normal α' H':=fun⟨i,hp,hs,hH⟩=>by subst hH;exact qZ (h2 i hp) (kI hs)
 cases e with
 |normal=>exact key h
 |exit i=>
  simp only[oM]at h ⊢
  by_cases hi:i==id
  ·rw[hi,cond_true]at h ⊢;exact key h
  ·have hi':(i==id)=false:=by simpa using hi
   rw[hi',cond_false]at h ⊢;exact h
 |_=>exact h
end Go.Aw
namespace Go.Proofs.YthhdnjiodklmmaaGreatDoor
open Go Go.Aw Go.Gw
set_option linter.unusedSimpArgs false
set_option maxRecDepth 20000
set_option maxHeartbeats 1000000
def cW:List Pl:=[.pure 0,.pure 0,.pure 0,.pure 0,.pure 0,.eff [true,true,true,true,true],.eff [true,true,true,false,false],.free]
attribute [go_sem] cW
def lO(o:Opn):List AV:=[.int .i64 o.at_.c,.int .i64 o.at_.r,.int .i64 o.kind,.int .i64 o.node,.int .i64 o.parent,.str o.name,.str o.data]
def aER(g:Lg)(e:Int):AV:=.tup [lgA g,.int .i64 e]
def aVU(l:List Ent):Prop:=∀e∈l,OpS e.op
theorem aDq{n:Nat}{H:AHeap}:∀(i:Nat) (x y:AV),([]:List AV)[i]?=some x→([]:List AV)[i]?=some y→Frz n H x y:=fun _ _ _ h=>by simp at h
theorem rL{n:Nat}{H:AHeap}{a b:AV}{cs ds:List AV}(h:Frz n H a b)(hs:∀(i:Nat) (x y:AV),cs[i]?=some x→ds[i]?=some y→Frz n H x y):∀(i:Nat) (x y:AV),(a::cs)[i]?=some x→(b::ds)[i]?=some y→Frz n H x y
 |0,x,y,hx,hy=>by simp at hx hy;subst hx;subst hy;exact h
 |i+1,x,y,hx,hy=>hs i x y (by simpa using hx) (by simpa using hy)
theorem aNW{H M L G X:AHeap}(hG:H++(M++L)=G):G++X=H++(M++(L++X)):=by rw[←hG];simp only[List.append_assoc]
theorem eD{H X:AHeap}{i:Nat}(h:∃M,X=H++M)(hi:H.length≤i)(b:ABlk):∃M,aD X i b=H++M:=by
 obtain⟨M,rfl⟩:=h
 obtain⟨k,rfl⟩:∃k,i=H.length+k:=⟨i-H.length,by omega⟩
 exact⟨M.set k b,zR _ _ _ _⟩
theorem pC{H X:AHeap}(h:∃M,X=H++M)(L:AHeap):∃M,X++L=H++M:=by
 obtain⟨M,rfl⟩:=h;exact⟨M++L,List.append_assoc ..⟩
theorem aJq(b1 b2:Bool)(g:Lg)(o:Opn)(hs:OpS o)(hes:aVU g.entries)(h2:g.nodes.length≤1000000)(h1:g.entries.length≤1000000)(H:AHeap):cJ Tryz.prog 101 [zW b1 b2 g,opA o] H (aER (eK g o) (qD g o)):=by
 have hok:=wI o hs
 have hsm:=aFQ b1 b2 g (by omega) (by omega)
 have hha:=aNT b1 b2 g o.at_
 refine aL Tryz.func101 rfl (Nat.le_of_ble_eq_true rfl) ?_
 simp only[opA,lgA,zW,stA,aER]at hok hsm hha ⊢
 cases ho:opOk o with
 |false=>
  rw[eK,if_pos ho,qD,if_pos ho]
  have ct0:=ct hok cS;have ct1:=ct hsm lX;repeat' first|((first|refine gK ?_|refine mx [7] cW ?_|refine gS ?_);simp only[go_sem,ho])|refine gA ?_|(refine gD (fun h=>?_) (fun h=>?_)<;>try exact aA h)|fail
  exact done (by simp only[go_sem]) (.refl _)
 |true=>
  cases hh:jY g.entries o.at_ with
  |true=>
   rw[eK,if_neg (by rw[ho];decide),if_pos hh,qD,if_neg (by rw[ho];decide),if_pos hh]
   have ct0:=ct hok cS;have ct1:=ct hsm lX;have ct2:=ct hha kO;repeat' first|((first|refine gK ?_|refine mx [7] cW ?_|refine gS ?_);simp only[go_sem,ho,hh])|refine gA ?_|(refine gD (fun h=>?_) (fun h=>?_)<;>try exact aA h)|fail
   exact done (by simp only[go_sem]) (.refl _)
  |false=>
   by_cases hm:(200:Int)≤(g.entries.length:Int)
   ·rw[eK,if_neg (by rw[ho];decide),if_neg (by rw[hh];decide),if_pos hm,qD,if_neg (by rw[ho];decide),if_neg (by rw[hh];decide),if_pos hm]
    have ct0:=ct hok cS;have ct1:=ct hsm lX;have ct2:=ct hha kO;repeat' first|((first|refine gK ?_|refine mx [7] cW ?_|refine gS ?_);simp only[go_sem,ho,hh,hm])|refine gA ?_|(refine gD (fun h=>?_) (fun h=>?_)<;>try exact aA h)|fail
    exact done (by simp only[go_sem]) (.refl _)
   ·rw[eK,if_neg (by rw[ho];decide),if_neg (by rw[hh];decide),if_neg hm,qD,if_neg (by rw[ho];decide),if_neg (by rw[hh];decide),if_neg hm]
    have ct0:=ct hok cS;have ct1:=ct hsm lX;have ct2:=ct hha kO;repeat' first|((first|refine gK ?_|refine mx [7] cW ?_|refine gS ?_);simp only[go_sem,ho,hh,hm])|refine gA ?_|(refine gD (fun h=>?_) (fun h=>?_)<;>try exact aA h)|fail
    have hbk:=fun l e u hl=>aQo false l e u hl
    simp only[opA,unA]at hbk
    refine yL (H.length+3) [.sl false (g.nodes.map ndA)] (v:=0) (cs:=[.sl b2 (g.nodes.map ndA)]) (by simp only[go_sem]) rfl (aQ (.sl _ _) fL) ?_
    simp only[go_sem]
    refine iC (ι:=Nat×List Nd×AHeap)
     (fun x=>[(2,.ref H.length 0 0),(3,.ref (H.length+1) 0 0),(4,.ref (H.length+2) 0 0),(6,.ref (H.length+3) 0 0),(7,.int .i64 ((g.entries.length-x.1:Nat):Int))])
     (fun x=>H++([.cells 0 [.sl b1 (g.entries.map fX),.sl b2 (g.nodes.map ndA)],.cells 0 (lO o),.cells 0 [.sl true [],.sl true []],.cells 0 [.sl false (x.2.1.map ndA)]]++x.2.2))
     (fun x=>x.1≤g.entries.length∧x.2.1.length≤g.nodes.length+x.1∧fC o.at_ g.entries.reverse g.nodes=(x.1,x.2.1)) ?_ ?_
    ·refine aP (ι:=Nat×List Nd×AHeap)
      (fun x=>[(2,.ref H.length 0 0),(3,.ref (H.length+1) 0 0),(4,.ref (H.length+2) 0 0),(6,.ref (H.length+3) 0 0),(7,.int .i64 ((g.entries.length-x.1:Nat):Int)),(41,.int .i64 g.entries.length),(42,.int .i64 x.1)])
      (fun x=>H++([.cells 0 [.sl b1 (g.entries.map fX),.sl b2 (g.nodes.map ndA)],.cells 0 (lO o),.cells 0 [.sl true [],.sl true []],.cells 0 [.sl false (x.2.1.map ndA)]]++x.2.2))
      (fun x=>x.1≤g.entries.length∧x.2.1.length≤g.nodes.length+x.1∧fC o.at_ g.entries.reverse g.nodes=(x.1+(fC o.at_ (g.entries.reverse.drop x.1) x.2.1).1,(fC o.at_ (g.entries.reverse.drop x.1) x.2.1).2)) (fun x=>g.entries.length-x.1) (0,g.nodes,[]) ⟨Nat.zero_le _,Nat.le_refl _,by simp⟩ ?_ (by simp[lO]) ?_
     ·simp[go_sem]
     ·rintro⟨i,n,L⟩ ⟨hi,hn,he⟩
      simp only[lO]at hi hn he ⊢
      generalize hG:H++([ABlk.cells 0 [AV.sl b1 (g.entries.map fX),.sl b2 (g.nodes.map ndA)],.cells 0 [.int .i64 o.at_.c,.int .i64 o.at_.r,.int .i64 o.kind,.int .i64 o.node,.int .i64 o.parent,.str o.name,.str o.data],.cells 0 [.sl true [],.sl true []],.cells 0 [.sl false (n.map ndA)]]++L)=G
      have hlG:H.length+3<G.length:=by rw[←hG];simp
      have q0:hget G H.length=.cells 0 [AV.sl b1 (g.entries.map fX),.sl b2 (g.nodes.map ndA)]:=by rw[←hG];simp only[go_sem]
      have q1:hget G (H.length+1)=.cells 0 [.int .i64 o.at_.c,.int .i64 o.at_.r,.int .i64 o.kind,.int .i64 o.node,.int .i64 o.parent,.str o.name,.str o.data]:=by rw[←hG];simp only[go_sem]
      have q3:hget G (H.length+3)=.cells 0 [.sl false (n.map ndA)]:=by rw[←hG];simp only[go_sem]
      have q0':=fun M=>aH q0 trivial M
      have q1':=fun M=>aH q1 trivial M
      have q3':=fun M=>aH q3 trivial M
      have qs:=fun M b=>bS hlG M b
      have qn:∀b,aD G (H.length+3) b=H++([ABlk.cells 0 [AV.sl b1 (g.entries.map fX),.sl b2 (g.nodes.map ndA)],.cells 0 [.int .i64 o.at_.c,.int .i64 o.at_.r,.int .i64 o.kind,.int .i64 o.node,.int .i64 o.parent,.str o.name,.str o.data],.cells 0 [.sl true [],.sl true []],b]++L):=fun b=>by rw[←hG];simp only[go_sem]
      by_cases hlt:i<g.entries.length
      ·have hix:g.entries.length-1-i<g.entries.length:=by omega
       have hp:=bA fX hix
       have e1:IntKind.i64.wrap (IntKind.i64.wrap ((g.entries.length:Int)-1)-(i:Int))=((g.entries.length-1-i:Nat):Int):=by
        rw[wrap_i64 (n:=(g.entries.length:Int)-1) (by omega) (by omega),wrap_i64 (by omega) (by omega)];omega
       have hdr:g.entries.reverse.drop i=g.entries[g.entries.length-1-i]::g.entries.reverse.drop (i+1):=by
        rw[List.drop_eq_getElem_cons (by simpa using hlt)]
        congr 1
        rw[List.getElem_reverse]
       rw[hdr,fC]at he
       repeat' first|((first|refine cK (ct (tH _ _ _ _) jN) ?_|refine cP (ct (tH _ _ _ _) jN) ?_|refine cM (ct (tH _ _ _ _) jN) ?_|refine aV (hbk _ _ _ (by first|assumption|decide|omega|(simp_all;done)|(simp_all;omega)) _) sL ?_|refine aW (hbk _ _ _ (by first|assumption|decide|omega|(simp_all;done)|(simp_all;omega)) _) sL ?_|refine aX (fun _=>hbk _ _ _ (by first|assumption|decide|omega|(simp_all;done)|(simp_all;omega)) _) sL ?_|refine mx [7] cW ?_|refine gS ?_);simp only[go_sem,hp,fX,e1,q0,q1,q3,q0',q1',q3',qs])|refine gA ?_|(refine gD (fun h=>?_) (fun h=>?_)<;>try exact aA h)|fail
       ·have hl0:¬fY o.at_ g.entries[g.entries.length-1-i].op.at_=true:=by
         rw[Bool.not_eq_true];unfold fY;simpa using h
        rw[if_neg hl0]at he
        exact⟨(i,n,L++[_]),⟨hi,hn,by rw[he];rfl⟩,rfl,aNW hG⟩
       ·have hl0:fY o.at_ g.entries[g.entries.length-1-i].op.at_=true:=by unfold fY;simpa using h
        rw[if_pos hl0]at he
        have hbl:=aBK n g.entries[g.entries.length-1-i].op g.entries[g.entries.length-1-i].undo
        refine⟨(i+1,oD n g.entries[g.entries.length-1-i].op g.entries[g.entries.length-1-i].undo,L++[_]),⟨hlt,by simp only;omega,by rw[he];simp only[Prod.mk.injEq,and_true];omega⟩,by simp only;omega,⟨congrArg _ ?_,congrArg _ (bD hlt (by omega))⟩,aNW (qn _).symm⟩
        simp only
        rw[wrap_i64 (by omega) (by omega)];omega
      ·repeat' first|((first|refine mx [7] cW ?_|refine gS ?_);simp only[go_sem,q0,q1,q3,hlt])|refine gA ?_|(refine gD (fun h=>?_) (fun h=>?_)<;>try exact aA h)|fail
       have hil:i=g.entries.length:=by omega
       have hd0:g.entries.reverse.drop i=[]:=List.drop_of_length_le (by simp;omega)
       rw[hd0]at he
       exact⟨(i,n,L),⟨hi,hn,by rw[he];rfl⟩,rfl,by rw[←hG];simp only[go_sem]⟩
    ·rintro⟨c,n,L⟩ ⟨hc,hn,he⟩
     simp only[lO]at hc hn he ⊢
     rw[he]
     simp only
     generalize hG:H++([ABlk.cells 0 [AV.sl b1 (g.entries.map fX),.sl b2 (g.nodes.map ndA)],.cells 0 [.int .i64 o.at_.c,.int .i64 o.at_.r,.int .i64 o.kind,.int .i64 o.node,.int .i64 o.parent,.str o.name,.str o.data],.cells 0 [.sl true [],.sl true []],.cells 0 [.sl false (n.map ndA)]]++L)=G
     have hlG:H.length+3<G.length:=by rw[←hG];simp
     have hpG:∃M,G=H++M:=⟨_,hG.symm⟩
     have q0:hget G H.length=.cells 0 [AV.sl b1 (g.entries.map fX),.sl b2 (g.nodes.map ndA)]:=by rw[←hG];simp only[go_sem]
     have q1:hget G (H.length+1)=.cells 0 [.int .i64 o.at_.c,.int .i64 o.at_.r,.int .i64 o.kind,.int .i64 o.node,.int .i64 o.parent,.str o.name,.str o.data]:=by rw[←hG];simp only[go_sem]
     have q2:hget G (H.length+2)=.cells 0 [.sl true [],.sl true []]:=by rw[←hG];simp only[go_sem]
     have q3:hget G (H.length+3)=.cells 0 [.sl false (n.map ndA)]:=by rw[←hG];simp only[go_sem]
     have q0':=fun M=>aH q0 trivial M
     have q1':=fun M=>aH q1 trivial M
     have q3':=fun M=>aH q3 trivial M
     have t1:List.take (g.entries.length-c) (List.map fX g.entries)=List.map fX (g.entries.take (g.entries.length-c)):=List.map_take.symm
     have t2:List.drop (g.entries.length-c) (List.map fX g.entries)=List.map fX (g.entries.drop (g.entries.length-c)):=List.map_drop.symm
     have ha1:=aQp false (g.entries.take (g.entries.length-c)) n o hs (by omega) (by simp;omega) (G++[.cells 0 [.sl true ((g.entries.take (g.entries.length-c)).map fX)]]) (H.length+3) G.length (by omega) (aH q3 trivial _) (jL _ _)
     simp only[opA]at ha1
     repeat' first|((first|refine mx [7] cW ?_|refine gS ?_);simp only[go_sem,q0,q1,q3,q0',q1',q3',t1,t2])|refine gA ?_|(refine gD (fun h=>?_) (fun h=>?_)<;>try exact aA h)|fail
     refine mX ha1 aAd ?_
     rintro x H' ⟨rfl,c0,c1,hH'⟩
     simp only[go_sem]
     have hl1:(G++[ABlk.cells 0 [AV.sl true ((g.entries.take (g.entries.length-c)).map fX)]]).length=G.length+1:=by simp
     have hdl:=aCj n o
     have lt1:(g.entries.take (g.entries.length-c)).length=g.entries.length-c:=by rw[List.length_take];omega
     rw[hl1,lt1]at hH'
     have r0:hget H' H.length=.cells 0 [AV.sl b1 (g.entries.map fX),.sl b2 (g.nodes.map ndA)]:=by
      rw[hH'];exact aH ((bX (by omega) _).trans ((bX (by omega) _).trans (q0' _))) trivial _
     have r2:hget H' (H.length+2)=.cells 0 [.sl true [],.sl true []]:=by
      rw[hH'];exact aH ((bX (by omega) _).trans ((bX (by omega) _).trans (aH q2 trivial _))) trivial _
     have r3:hget H' (H.length+3)=.cells 0 [.sl false ((kY n o).map ndA)]:=by
      rw[hH'];exact aH (b:=.cells 0 [.sl false ((kY n o).map ndA)]) ((bX (by omega) _).trans (dY (by rw[hl1];omega) _)) trivial _
     have rE:hget H' G.length=.cells 0 [.osl 17 (G.length+3) 1 0 (g.entries.length-c+1) (g.entries.length-c+1)]:=by
      rw[hH'];exact aH (b:=.cells 0 [.osl 17 (G.length+3) 1 0 (g.entries.length-c+1) (g.entries.length-c+1)]) (dY (by rw[cT,hl1];omega) _) trivial _
     have rK:hget H' (G.length+3)=.cells 1 (((g.entries.take (g.entries.length-c)++[(⟨o,uK n o⟩:Ent)]).map fX).flatMap AV.cells):=by
      rw[hH'];exact aCm (n:=G.length+1) (k:=2) (by rw[cT,cT,hl1])
     have rP:∃M,H'=H++M:=by
      rw[hH'];exact pC (eD (eD (pC hpG _) (by omega) _) (by omega) _) _
     have hGK:H.length+3<G.length:=hlG
     generalize G.length=B at r0 r2 r3 rE rK hGK ⊢
     clear hH' hG hpG q0 q1 q2 q3 q0' q1' q3' ha1 hl1 hlG
     repeat' first|((first|refine mx [7] cW ?_|refine gS ?_);simp only[go_sem,r0,t2,iU])|refine gA ?_|(refine gD (fun h=>?_) (fun h=>?_)<;>try exact aA h)|fail
     clear hok hsm hha hbk he
     refine aP (ι:=Nat×AHeap) (fun x=>[(4,.ref (H.length+2) 0 0),(6,.ref (H.length+3) 0 0),(10,.ref B 0 0),(11,.func (.func 159) [] [.ref (H.length+3) 0 0,.ref B 0 0]),(83,.sl b1 ((g.entries.drop (g.entries.length-c)).map fX)),(84,.int .i64 ((g.entries.drop (g.entries.length-c)).length:Int)),(85,.int .i64 x.1)])
      (fun x=>x.2)
      (fun x=>x.1≤(g.entries.drop (g.entries.length-c)).length∧hget x.2 (H.length+2)=.cells 0 [.sl true [],.sl true []]∧
       hget x.2 (H.length+3)=.cells 0 [.sl false ((eJ (o::((g.entries.drop (g.entries.length-c)).take x.1).map Ent.op) (g.entries.take (g.entries.length-c)) n).2.map ndA)]∧
       hget x.2 B=.cells 0 [.osl 17 (B+3) (x.1+1) 0 (eJ (o::((g.entries.drop (g.entries.length-c)).take x.1).map Ent.op) (g.entries.take (g.entries.length-c)) n).1.length (eJ (o::((g.entries.drop (g.entries.length-c)).take x.1).map Ent.op) (g.entries.take (g.entries.length-c)) n).1.length]∧
       hget x.2 (B+3)=.cells (x.1+1) (((eJ (o::((g.entries.drop (g.entries.length-c)).take x.1).map Ent.op) (g.entries.take (g.entries.length-c)) n).1.map fX).flatMap AV.cells)∧∃M,x.2=H++M) (fun x=>(g.entries.drop (g.entries.length-c)).length-x.1) (0,H')
      ⟨Nat.zero_le _,r2,by simpa[eJ]using r3,by simpa[eJ,lt1]using rE,by simpa[eJ]using rK,rP⟩ ?_ rfl ?_
     ·simp[go_sem]
     ·rintro⟨m,X⟩ ⟨hm1,s2,s3,sE,sK,sP⟩
      simp only at hm1 s2 s3 sE sK sP ⊢
      have hrl:=aDf (o::((g.entries.drop (g.entries.length-c)).take m).map Ent.op) (g.entries.take (g.entries.length-c)) n
      have hdl2:(g.entries.drop (g.entries.length-c)).length≤g.entries.length:=by rw[List.length_drop];omega
      have htl:((o::((g.entries.drop (g.entries.length-c)).take m).map Ent.op)).length=m+1:=by simp;rw[List.length_drop]at hm1;omega
      rw[htl,lt1]at hrl
      by_cases hlt:m<(g.entries.drop (g.entries.length-c)).length
      ·have hp:=bA fX hlt
       have hmem:(g.entries.drop (g.entries.length-c))[m]∈g.entries:=List.mem_of_mem_drop (List.getElem_mem hlt)
       have hops:=hes _ hmem
       have hsn:=aBL (o::((g.entries.drop (g.entries.length-c)).take m).map Ent.op) (g.entries.drop (g.entries.length-c))[m].op (g.entries.take (g.entries.length-c)) n
       have htk:(o::((g.entries.drop (g.entries.length-c)).take m).map Ent.op)++[(g.entries.drop (g.entries.length-c))[m].op]=o::((g.entries.drop (g.entries.length-c)).take (m+1)).map Ent.op:=by
        rw[List.take_succ_eq_append_getElem hlt,List.map_append];rfl
       rw[htk]at hsn
       generalize hR:eJ (o::((g.entries.drop (g.entries.length-c)).take m).map Ent.op) (g.entries.take (g.entries.length-c)) n=R at s3 sE sK hrl hsn
       have hX:H.length+3<X.length:=bI s3 trivial
       have hB:B<X.length:=bI sE trivial
       have hK:B+3<X.length:=bI sK trivial
       have s3':=fun M=>aH s3 trivial M
       have sE':=fun M=>aH sE trivial M
       have ha2:=fun E=>aQq false R.1 R.2 (g.entries.drop (g.entries.length-c))[m].op hops (by omega) (by omega) (X++[E]) (H.length+3) B (B+3) (m+1) (by omega) (by omega) (by omega) (by omega) (s3' _) (sE' _) (aH sK trivial _)
       simp only[opA]at ha2
       have hltI:decide ((m:Int)<((g.entries.drop (g.entries.length-c)).length:Int))=true:=decide_eq_true (by omega)
       repeat' first|((first|refine mx [7] cW ?_|refine gS ?_);simp only[go_sem,hp,fX,s3',sE',hltI])|refine gA ?_|(refine gD (fun h=>?_) (fun h=>?_)<;>try exact aA h)|fail
       refine mX (ha2 _) aAd ?_
       rintro x H2 ⟨rfl,d0,d1,hH2⟩
       simp only[go_sem]
       repeat' first|((first|refine mx [7] cW ?_|refine gS ?_);simp only[go_sem])|refine gA ?_|(refine gD (fun h=>?_) (fun h=>?_)<;>try exact aA h)|fail
       have hl2:(X++[ABlk.cells 0 (fX (g.entries.drop (g.entries.length-c))[m]).cells]).length=X.length+1:=by simp
       refine⟨(m+1,H2),⟨hlt,?_,?_,?_,?_,?_⟩,by simp only;omega,congrArg _ (bD hlt (by omega)),rfl⟩
       ·simp only
        rw[hH2]
        exact aH ((bX (by omega) _).trans ((bX (by omega) _).trans ((bX (by omega) _).trans (aH s2 trivial _)))) trivial _
       ·simp only
        rw[hH2,hsn]
        refine aH (b:=.cells 0 [.sl false ((kY R.2 (g.entries.drop (g.entries.length-c))[m].op).map ndA)]) ((bX (by omega) _).trans ((bX (by omega) _).trans (dY ?_ _))) trivial _
        rw[List.length_append];omega
       ·simp only
        rw[hH2,hsn]
        have hb:=dY (H:=aD (aD (X++[ABlk.cells 0 (fX (g.entries.drop (g.entries.length-c))[m]).cells]) (H.length+3) (.cells 0 [.sl false ((kY R.2 (g.entries.drop (g.entries.length-c))[m].op).map ndA)])) (B+3) (.cells (m+1+1) (((R.1++[(⟨(g.entries.drop (g.entries.length-c))[m].op,uK R.2 (g.entries.drop (g.entries.length-c))[m].op⟩:Ent)]).map fX).flatMap AV.cells))) (i:=B) (by rw[cT,cT,hl2];omega) (.cells 0 [.osl 17 (B+3) (m+1+1) 0 (R.1.length+1) (R.1.length+1)])
        refine(aH hb trivial _).trans ?_
        rw[List.length_append];rfl
       ·simp only
        rw[hH2,hsn]
        refine aH (b:=.cells (m+1+1) (((R.1++[(⟨(g.entries.drop (g.entries.length-c))[m].op,uK R.2 (g.entries.drop (g.entries.length-c))[m].op⟩:Ent)]).map fX).flatMap AV.cells)) ((bX (by omega) _).trans (dY ?_ _)) trivial _
        rw[cT,List.length_append];omega
       ·simp only
        rw[hH2]
        exact pC (eD (eD (eD (pC sP _) (by omega) _) (by omega) _) (by omega) _) _
      ·have hme:m=(g.entries.drop (g.entries.length-c)).length:=by omega
       subst hme
       rw[List.take_length]at s3 sE sK hrl
       have hltI:decide (((g.entries.drop (g.entries.length-c)).length:Int)<((g.entries.drop (g.entries.length-c)).length:Int))=false:=by simp
       obtain⟨M,hM⟩:=sP
       have h2M:H.length+2<X.length:=bI s2 trivial
       have sK':=sK
       generalize hV:(eJ (o::(g.entries.drop (g.entries.length-c)).map Ent.op) (g.entries.take (g.entries.length-c)) n)=R at s3 sE sK hrl ⊢
       have sS:∀b,hget (aD X (H.length+2) b) (H.length+2)=b:=fun b=>dY h2M b
       repeat' first|((first|refine mx [7] cW ?_|refine gS ?_);simp only[go_sem,s2,s3,sE,hltI,sS])|refine gA ?_|(refine gD (fun h=>?_) (fun h=>?_)<;>try exact aA h)|fail
       obtain⟨M2,hM2⟩:=eD ⟨M,hM⟩ (i:=H.length+2) (by omega) (.cells 0 [.osl 17 (B+3) ((g.entries.drop (g.entries.length-c)).length+1) 0 R.1.length R.1.length,.sl false (R.2.map ndA)])
       refine⟨M2,_,hM2,?_,rfl⟩
       refine .tup _ _ rfl (rL (.agg _ _ rfl (rL ?_ (rL (.cl _ (Pur.cl (by simp only[go_sem]) _)) aDq))) (rL (.cl _ (.int _ _)) aDq))
       exact yM (es:=R.1.map fX) (rest:=[]) (by omega) ((bX (by omega) _).trans sK) (List.append_nil _).symm (by rw[List.length_map]) (jC _) (sA _)
end Go.Proofs.YthhdnjiodklmmaaGreatDoor
