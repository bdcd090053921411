/- What the functions of this seat answer (30 of 40). No condition. -/
import Derived.Test.YthafnbmdmfoobaaGreatDoorWorkBC
set_option linter.unusedSimpArgs false
set_option linter.unusedVariables false
set_option maxRecDepth 100000
set_option maxHeartbeats 16000000
namespace Go.Proofs.YthafnbmdmfoobaaGreatDoor
section
def Py:List cR:=[.free,.free,.pure 0,.pure 0,.pure 0,.pure 0,.pure 0,.free,.eff [true,false,true,true,true],.pure 0,.pure 0,.pure 0,.eff [false,true,true,false,false,false,false]]
attribute [go_sem] Py
structure q3 (p ay hD hF jc cL lw:Nat) (t:eS) (G:ab):Prop where
 ae:ao G p=.cells 0 [.osl 2 ay hF 0 t.held.length cL,.osl 2 hD jc 0 t.waits.length lw]
 h1:∃r,ao G ay=.cells hF (aI a6 t.held++r)∧(aI a6 t.held++r).length=cL * 2∧∀x∈r,bO x
 h2:∃r,ao G hD=.cells jc (aI a6 t.waits++r)∧(aI a6 t.waits++r).length=lw * 2∧∀x∈r,bO x
def Eo(o:Option Int):I:=.a0 [.int .i64 (o.getD 0),.bool o.isSome]
theorem aB2{i:Nat}{n:Int}{G:ab}(hi:ao G i=.cells 0 [.int .i64 n])(s:cM):aY Tryz.prog 165 [a6 s,.ref i 0 0] G (.bool (decide (s.lock=n))):=by
 refine bh Tryz.func165 ?_;have iJ:=bz hi trivial;refine b0 a6.eq_1 ?_;exact bo (.refl _)
theorem BH{eI H:ab}{i n:Nat}{b:bu}(h:∀(j:Nat) (c:bu),H[j]?=some c->eI[j]?=some c∨dp n c)(aa:dp n b):∀(j:Nat) (c:bu),(ai H i b)[j]?=some c->eI[j]?=some c∨dp n c:=fun j c al=>(pI aa j c al).elim (h j c) .inr
theorem M3(l:List cM)(r:List I)(ax:∀x∈r,bO x)(n v:Nat):dp n (.cells v (aI a6 l++r)):=fun x J=>(eX.1 J).elim (fun h=>(oX (fun x=>by simp only[go_sem]) _ x h).cl _) fun h=>(ax x h).cl _
theorem M4{n i j a b c d e f:Nat}(h1:i<n)(h2:j<n):dp n (.cells 0 [.osl 2 i a 0 b c,.osl 2 j d 0 e f]):=fun x J=>by
 simp only[c7,jB,jD]at J;rcases J with rfl|rfl<;>exact .osl _ _ _ _ _ _ (by assumption)
theorem Sh{α:Type}[DecidableEq α](p:α->Bool)(l:List α)(a:Nat)(h:eg p l=(a:Int))(aD:a<l.length):p l[a]=true∧l.erase l[a]=l.eraseIdx a:=by
 induction l generalizing a with
 |nil=>simp at aD
 |cons x l ay=>
  unfold eg at h;cases ae:p x with
  |true=>
   simp only[ae,dI]at h;have:a=0:=by omega
   subst this;exact⟨ae,by simp⟩
  |false=>
   simp only[ae,ht,eF]at h;have:=GW p l;split at h
   ·omega
   ·obtain⟨a,rfl⟩:∃b,a=b+1:=⟨a-1,by omega⟩
    obtain⟨i1,i2⟩:=ay a (by omega) (by simpa using aD)
    refine⟨i1,?_⟩;rw[List.getElem_cons_succ,List.erase_cons_tail,i2,List.eraseIdx_cons_succ];intro al;rw[qj]at al;rw[<-al,ae]at i1;exact absurd i1 (by decide)
theorem S6{p ay hD hF jc cL lw:Nat}{t:eS}{G:ab}(hs:q3 p ay hD hF jc cL lw t G)(d1:p≠ay)(d2:p≠hD)(d3:ay≠hD)(aV:cL<=1000000)(bm:lw<=1000000)(n k:Int):
  c5 Tryz.prog 114 [.ref p 0 0,.int .i64 n,.int .i64 k] G (fun v H'=>v=Eo (fo t n k).2∧q3 p ay hD hF jc cL lw (fo t n k).1 H'∧H'.length=G.length∧∀j,j≠p->j≠ay->j≠hD->ao H' j=ao G j):=by
 refine eJ Tryz.func114 ?_;obtain⟨ae,⟨aU,h1,cu,pk⟩,⟨a3,h2,dC,qO⟩⟩:=hs;have qo:=bz ae trivial;have aZ:=bz h1 trivial;have a7:=bz h2 trivial;have ar:(aI a6 t.held).length=t.held.length * 2:=dE (enc:=a6) (s:=2) (fun _=>rfl) _
 have au:(aI a6 t.waits).length=t.waits.length * 2:=dE (enc:=a6) (s:=2) (fun _=>rfl) _
 have cc:t.held.length<=cL:=by rw[bt,ar]at cu;omega
 have cI:t.waits.length<=lw:=by rw[bt,au]at dC;omega
 have o5:∀H,ao H ay=.cells hF (aI a6 t.held++aU)->aY Tryz.prog 163 [.osl 2 ay hF 0 t.held.length cL,a6 ⟨k,n⟩] H (.int .i64 (eg (fun x=>decide ((⟨k,n⟩:cM)=x)) t.held)):=fun H h=>aB1 t.held ⟨k,n⟩ ay hF cL t.held.length rfl cc (by omega) aU H h
 simp only[a6]at o5;unfold fo;rcases GG (fun x:cM=>decide ((⟨k,n⟩:cM)=x)) t.held with⟨aQ,aO⟩|⟨a,aD,aQ,aO⟩
 ·rw[aQ]at o5;have bX:¬t.held.contains ⟨k,n⟩=true:=fun al=>by
   have:=ux.1 aO ⟨k,n⟩ (by simpa using al)
   simp at this
  simp only[az bX];repeat' first|((first|refine ea (o5 _ (by simp only[go_sem,ae,qo,h1,aZ,Int.reduceLT])) (aA) ?_|refine ep (o5 _ (by simp only[go_sem,ae,qo,h1,aZ,Int.reduceLT])) (aA) ?_|refine er (fun _=>o5 _ (by simp only[go_sem,ae,qo,h1,aZ,Int.reduceLT])) (aA) ?_|refine ad ?_);simp only[go_sem,ae,qo,h1,aZ,Int.reduceLT])|refine bx ?_|(refine bD ?_ ?_<;>intro h<;>try exact bB h)|fail
  exact⟨G,_,Eo none,rfl,rfl,fun i b h=>.inl h,fY.uR (.refl _) (by simp only[go_sem]),rfl,⟨ae,⟨aU,h1,cu,pk⟩,⟨a3,h2,dC,qO⟩⟩,rfl,fun _ _ _ _=>rfl⟩
 ·rw[aQ]at o5;have WJ:t.held[a]=⟨k,n⟩:=by have:=yY aO;simpa[eq_comm]using this
  have na:t.held.contains ⟨k,n⟩=true:=by simp only[A6];rw[<-WJ];exact hv aD
  have IN:decide ((a:Int)<0)=false:=cg;have KT:IntKind.i64.wrap ((a:Int)+1)=((a+1:Nat):Int):=dW aD (by omega)
  simp only[aF na];repeat' first|((first|refine ea (o5 _ (by simp only[go_sem,ae,qo,h1,aZ,IN,KT])) (aA) ?_|refine ep (o5 _ (by simp only[go_sem,ae,qo,h1,aZ,IN,KT])) (aA) ?_|refine er (fun _=>o5 _ (by simp only[go_sem,ae,qo,h1,aZ,IN,KT])) (aA) ?_|refine ad ?_);simp only[go_sem,ae,qo,h1,aZ,IN,KT])|refine bx ?_|(refine bD ?_ ?_<;>intro h<;>try exact bB h)|fail
  have s1:=jI h1 trivial;refine c6 (TO t.held a ay hF cL t.held.length rfl aD (by omega) aU _ (aZ _) cu pk) (aA) ?_
  rintro v H' ⟨oz,rfl,rfl,F2,PF⟩;rw[s1];obtain⟨D,cD⟩:∃D,D=t.held.eraseIdx a:=⟨_,rfl⟩;have Ck:t.held.erase ⟨k,n⟩=D:=by
   rw[cD,<-WJ];exact(Sh _ _ _ aQ aD).2
  have uV:D.length=t.held.length-1:=by rw[cD,List.length_eraseIdx,aF aD]
  rw[<-cD]at F2 ⊢;have i1:=c8 h1 trivial;have ip:=c8 ae trivial;obtain⟨dd,ek⟩:∃dd,ai G ay (.cells hF (aI a6 D++oz))=dd:=⟨_,rfl⟩;have cK:ao dd ay=.cells hF (aI a6 D++oz):=by rw[<-ek];exact dT i1 _
  have pp:ao dd p=.cells 0 [.osl 2 ay hF 0 t.held.length cL,.osl 2 hD jc 0 t.waits.length lw]:=by rw[<-ek];exact bM ae (by omega) _
  have dc:ao dd hD=.cells jc (aI a6 t.waits++a3):=by rw[<-ek];exact bM h2 (by omega) _
  have aIz:=bz pp trivial;have Ps:=jI pp trivial;rw[ek];simp only[go_sem];repeat' first|(refine ad ?_;simp only[go_sem,aIz,Ps])|refine af ?_|fail
  have jp:=c8 pp trivial;obtain⟨cZ,fh⟩:∃cZ,ai dd p (.cells 0 [.osl 2 ay hF 0 (t.held.length-1) cL,.osl 2 hD jc 0 t.waits.length lw])=cZ:=⟨_,rfl⟩;have t1:ao cZ p=.cells 0 [.osl 2 ay hF 0 (t.held.length-1) cL,.osl 2 hD jc 0 t.waits.length lw]:=by rw[<-fh];exact dT jp _
  have t2:ao cZ ay=.cells hF (aI a6 D++oz):=by rw[<-fh];exact bM cK (by omega) _
  have t3:ao cZ hD=.cells jc (aI a6 t.waits++a3):=by rw[<-fh];exact bM dc (by omega) _
  have yP:cZ.length=G.length:=by rw[<-fh,aX,<-ek,aX]
  have WQ:∀(i:Nat) (b:bu),cZ[i]?=some b->G[i]?=some b∨dp G.length b:=by rw[<-fh,<-ek];exact BH (BH (fun _ _ h=>.inl h) (M3 D oz PF _ _)) (M4 i1 (c8 h2 trivial))
  have WZ:∀j,j≠p->j≠ay->j≠hD->ao cZ j=ao G j:=fun j dq bZ dO=>by rw[<-fh,<-ek,hI (kn dq),hI (kn bZ)]
  have wq:=bz t1 trivial;have iS:=bz t2 trivial;have gs:=bz t3 trivial;have C6:∀L:List bu,ao (cZ++.cells 0 [.int .i64 k]::L) G.length=.cells 0 [.int .i64 k]:=fun L=>rB yP
  have aJB:aY Tryz.prog 104 [.osl 2 hD jc 0 t.waits.length lw,.func (.func 165) [] [.ref G.length 0 0]] (cZ++[.cells 0 [.int .i64 k]]) (.int .i64 (eg (fun x:cM=>decide (x.lock=k)) t.waits)):=
   aE8 t.waits (fun x:cM=>decide (x.lock=k)) hD jc lw t.waits.length rfl cI (by omega) a3 _ (gs _) fun x=>.inl ⟨aA,aB2 (C6 []) x⟩
  rw[fh];simp only[wq,go_sem];repeat' first|(refine ad ?_;simp only[go_sem,wq])|refine af ?_|fail
  refine c6 aJB aA ?_;rintro _ _ ⟨rfl,rfl⟩;rcases GG (fun x:cM=>decide (x.lock=k)) t.waits with⟨jA,la⟩|⟨b,aa,jA,la⟩
  ·rw[jA];simp only[la];simp only[go_sem];repeat' first|(refine ad ?_;simp only[go_sem,wq,iS,gs,Int.reduceLT])|refine bx ?_|(refine bD ?_ ?_<;>intro h<;>try exact bB h)|fail
   exact⟨cZ,_,Eo none,rfl,yP,WQ,fY.uR (.refl _) (by simp only[go_sem]),rfl,⟨by rw[Ck,uV];exact t1,⟨oz,by rw[Ck];exact t2,by rw[Ck];exact F2,PF⟩,⟨a3,t3,dC,qO⟩⟩,yP,WZ⟩
  ·rw[jA];simp only[la];have aH7:decide ((b:Int)<0)=false:=cg;have yS:IntKind.i64.wrap ((b:Int)+1)=((b+1:Nat):Int):=dW aa (by omega)
   have yl:=HK (enc:=a6) (s:=2) (fun _=>rfl) aa a3
   simp only[a6,I.cells]at yl;have rl:b * 2+2<=(aI a6 t.waits++a3).length:=by rw[bt,au];omega
   have s2:=jI t3 trivial;simp only[go_sem];repeat' first|(refine ad ?_;simp only[go_sem,wq,iS,gs,aH7,yS,yl,C6])|refine af ?_|fail
   refine c6 (TO t.waits b hD jc lw t.waits.length rfl aa (by omega) a3 _ (gs _) dC qO) aA ?_
   rintro v H' ⟨AL,rfl,rfl,WR,XA⟩;rw[s2];obtain⟨E,ga⟩:∃E,E=t.waits.eraseIdx b:=⟨_,rfl⟩;have E5:t.waits.erase t.waits[b]=E:=by rw[ga];exact(Sh _ _ _ jA aa).2
   have I8:E.length=t.waits.length-1:=by rw[ga,List.length_eraseIdx,aF aa]
   rw[<-ga]at WR ⊢;obtain⟨fS,jq⟩:∃fS,ai cZ hD (.cells jc (aI a6 E++AL))=fS:=⟨_,rfl⟩;have t1:ao fS p=.cells 0 [.osl 2 ay hF 0 (t.held.length-1) cL,.osl 2 hD jc 0 t.waits.length lw]:=by rw[<-jq];exact bM t1 (by omega) _
   have t2:ao fS ay=.cells hF (aI a6 D++oz):=by rw[<-jq];exact bM t2 (by omega) _
   have t3:ao fS hD=.cells jc (aI a6 E++AL):=by rw[<-jq];exact dT (c8 t3 trivial) _
   have aLS:fS.length=G.length:=by rw[<-jq,aX,yP]
   have wq:=bz t1 trivial;have Ps:=jI t1 trivial;rw[jq];simp only[go_sem];repeat' first|((first|refine mx [10] Py ?_|refine ad ?_);simp only[go_sem,wq,Ps])|refine bx ?_|(refine bD ?_ ?_<;>intro h<;>try exact bB h)|fail
   have jp:=c8 t1 trivial;obtain⟨vM,zO⟩:∃vM,ai fS p (.cells 0 [.osl 2 ay hF 0 (t.held.length-1) cL,.osl 2 hD jc 0 (t.waits.length-1) lw])=vM:=⟨_,rfl⟩;have t1:ao vM p=.cells 0 [.osl 2 ay hF 0 (t.held.length-1) cL,.osl 2 hD jc 0 (t.waits.length-1) lw]:=by rw[<-zO];exact dT jp _
   have t2:ao vM ay=.cells hF (aI a6 D++oz):=by rw[<-zO];exact bM t2 (by omega) _
   have t3:ao vM hD=.cells jc (aI a6 E++AL):=by rw[<-zO];exact bM t3 (by omega) _
   have aLT:vM.length=G.length:=by rw[<-zO,aX,aLS]
   have wq:=bz t1 trivial;have iS:=bz t2 trivial;have Xv:=jI t2 trivial;have AE:∀B L,ao (vM++B::.cells 0 [.int .i64 t.waits[b].lock,.int .i64 t.waits[b].aR]::L) (cZ.length+1)=.cells 0 [.int .i64 t.waits[b].lock,.int .i64 t.waits[b].aR]:=fun B L=>w3 (k:=1) (by omega)
   have ak:t.held.length-1+1<=cL:=by omega
   have pH:(aI a6 D).length=(t.held.length-1) * 2:=by rw[dE (enc:=a6) (s:=2) (fun _=>rfl),uV]
   have aP:(t.held.length-1=cL)=False:=uy (by omega)
   have dK:=fun a b=>m0 (B:=oz) (X:=[.int .i64 a,.int .i64 b]) pH
   rw[zO];simp only[wq,AE,go_sem];repeat' first|((first|refine mx [10] Py ?_|refine ad ?_);simp only[go_sem,wq,iS,Xv,AE,aP,F2])|refine bx ?_|(refine bD ?_ ?_<;>intro h<;>try exact bB h)|fail
   have Vr:aI a6 (D++[t.waits[b]])=aI a6 D++[.int .i64 t.waits[b].lock,.int .i64 t.waits[b].aR]:=iu ..;have aKr:dw (aI a6 D++oz) ((t.held.length-1) * 2) [.int .i64 t.waits[b].lock,.int .i64 t.waits[b].aR]=aI a6 (D++[t.waits[b]])++oz.drop 2:=by rw[dK,Vr,cr];rfl
   obtain⟨xx,x7⟩:∃xx,ai vM ay (.cells hF (aI a6 (D++[t.waits[b]])++oz.drop 2))=xx:=⟨_,rfl⟩;have Pt:ao xx p=.cells 0 [.osl 2 ay hF 0 (t.held.length-1) cL,.osl 2 hD jc 0 (t.waits.length-1) lw]:=by rw[<-x7];exact bM t1 (by omega) _
   have aLR:ao xx hD=.cells jc (aI a6 E++AL):=by rw[<-x7];exact bM t3 (by omega) _
   have aLQ:ao xx ay=.cells hF (aI a6 (D++[t.waits[b]])++oz.drop 2):=by rw[<-x7];exact dT (c8 t2 trivial) _
   have aIA:=bz Pt trivial;have aLP:=jI Pt trivial;have aLb:∀B L,ao (xx++B::.cells 0 [.int .i64 t.waits[b].lock,.int .i64 t.waits[b].aR]::L) (cZ.length+1)=.cells 0 [.int .i64 t.waits[b].lock,.int .i64 t.waits[b].aR]:=fun B L=>w3 (k:=1) (by rw[<-x7,aX];omega)
   simp only[iS,aP,eF,aKr,Xv,x7,aIA,aLP,F2,go_sem];obtain⟨s6,zP⟩:∃s6,ai xx p (.cells 0 [.osl 2 ay hF 0 (t.held.length-1+1) cL,.osl 2 hD jc 0 (t.waits.length-1) lw])=s6:=⟨_,rfl⟩;have t1:ao s6 p=.cells 0 [.osl 2 ay hF 0 (t.held.length-1+1) cL,.osl 2 hD jc 0 (t.waits.length-1) lw]:=by rw[<-zP];exact dT (c8 Pt trivial) _
   have t2:ao s6 ay=.cells hF (aI a6 (D++[t.waits[b]])++oz.drop 2):=by rw[<-zP];exact bM aLQ (by omega) _
   have t3:ao s6 hD=.cells jc (aI a6 E++AL):=by rw[<-zP];exact bM aLR (by omega) _
   have Xy:s6.length=G.length:=by rw[<-zP,aX,<-x7,aX,aLT]
   have aIB:=bz t1 trivial;have aLc:∀B L,ao (s6++B::.cells 0 [.int .i64 t.waits[b].lock,.int .i64 t.waits[b].aR]::L) (cZ.length+1)=.cells 0 [.int .i64 t.waits[b].lock,.int .i64 t.waits[b].aR]:=fun B L=>w3 (k:=1) (by omega)
   rw[zP];simp only[aLb,aIB,go_sem];refine⟨⟨bk _,ak,fun e he=>by rw[he];rfl⟩,?_⟩
   repeat' first|(refine ad ?_;simp only[go_sem,aLc])|refine bx ?_|(refine bD ?_ ?_<;>intro h<;>try exact bB h)|fail
   have AX:∀x∈oz.drop 2,bO x:=fun x J=>PF x (vG J)
   have aKP:∀(i:Nat) (b:bu),s6[i]?=some b->G[i]?=some b∨dp G.length b:=by
    rw[<-zP,<-x7,<-zO,<-jq];exact BH (BH (BH (BH WQ (M3 E AL XA _ _)) (M4 i1 (c8 h2 trivial))) (M3 _ _ AX _ _)) (M4 i1 (c8 h2 trivial))
   have aLd:∀j,j≠p->j≠ay->j≠hD->ao s6 j=ao G j:=fun j dq bZ dO=>by rw[<-zP,<-x7,<-zO,<-jq,hI (kn dq),hI (kn bZ),hI (kn dq),hI (kn dO),WZ j dq bZ dO]
   refine⟨s6,_,_,rfl,Xy,aKP,fY.uR (.refl _) (by simp only[go_sem]),rfl,⟨by rw[Ck,E5,bt,uV,I8];exact t1,⟨oz.drop 2,by rw[Ck];exact t2,by rw[Ck,Vr,bt,bt,gL,pH];rw[bt,pH]at F2;simp only[cm,ew];omega,AX⟩,⟨AL,by rw[E5];exact t3,by rw[E5];exact WR,XA⟩⟩,Xy,aLd⟩
end
section
structure Ld (d0 d:cS) (k:Nat):Prop where
 bc:np d.m
 db:d.m.log.entries.length<=200
 nodes:d.m.log.nodes.length<=400+401 * k
 ops:d.ops.length<=d0.ops.length+k
theorem aAo{d0 d:cS}{k:Nat}(h:Ld d0 d k)(hk:k<200){o:bf}(aN:pz o):Ld d0 (oD d o).2 (k+1):=by
 obtain⟨cu,dC,rG⟩:=KS d.m.log o;have F3:=rG h.db;have h1:=h.nodes;have h2:=h.ops;have h3:=h.db;unfold oD;split
 ·refine⟨⟨by simp only;omega,by simp only;omega,fun e he=>aBz d.m.log o pz h.bc.ops aN e he,h.bc.cj,h.bc.bN,h.bc.snap,h.bc.bV⟩,by simp only;omega,by simp only;omega,by simp only[bt,cm,ew];omega⟩
 ·exact⟨h.bc,h3,by simp only;omega,by simp only;omega⟩
theorem aAp{b:aM}{l:List bf}(h:oB b=some l):l.length<=b.length:=by
 have key:∀(n:Nat) (b:aM) (l:List bf),qH n b=some l->l.length<=n:=by
  intro n;induction n with
  |zero=>
   intro b l h;unfold qH at h;split at h
   ·cases h;simp
   ·cases h
  |succ n ay=>
   intro b l h;unfold qH at h;split at h
   ·cases h;simp
   ·simp only[xn]at h;obtain⟨⟨o,r⟩, -,h2⟩:=h;simp only[jC]at h2;obtain⟨t,h3,rfl⟩:=h2;have:=ay r t h3;rw[cm];omega
 exact key _ _ _ h
theorem aB3(f:bf)(k:Nat)(o:bf)(G:ab)(hk:ao G k=.cells 0 (bY o).cells):aY Tryz.prog 145 [bY f,.ref k 0 0] G (.bool (decide (f.at_=o.at_))):=by
 refine bh Tryz.func145 ?_;have hX:=bz hk trivial;simp only[bY,I.cells]at hk hX;refine b0 bY.eq_1 ?_;exact bo (.of (by rw[Tq]))
theorem aEp(l:List bf)(o:bf)(i v lc n k:Nat)(ag:n=l.length)(gE:n<=lc)(hl:n<=1073741824)(H:ab)(ah:ao H i=.cells v (aI bY l))(hk:ao H k=.cells 0 (bY o).cells):
  aY Tryz.prog 147 [.osl 7 i v 0 n lc,.func (.func 145) [] [.ref k 0 0]] H (.bool (l.any fun f=>decide (f.at_=o.at_))):=by
 refine bh Tryz.func147 ?_;have J:=aDy l (fun f=>decide (f.at_=o.at_)) i v lc n ag gE hl (fn:=.func 145) (fs:=[]) (cs:=[.ref k 0 0]) H ah (fun x=>Or.inl ⟨(aA),aB3 x k o H hk⟩)
 repeat' first|((first|refine ea (J) (aA) ?_|refine ep (J) (aA) ?_|refine er (fun _=>J) (aA) ?_|refine ad ?_);simp only[go_sem])|refine af ?_|fail
 exact bC (.of (by rw[yx]))
theorem aB4{i j:Nat}{c:b3}{d:cS}{G:ab}(aa:gv i j c d G)(hs:np d.m)(al:jh c)(hl:d.ops.length<=1000)(hc:d.m.log.entries.length<=200∧d.m.log.nodes.length<=400):qZ Tryz.prog 101 i j c (DS c d) G:=by
 refine eJ Tryz.func101 ?_;have a8:=aa.aV;have aU:=bz aa.aV trivial;have a3:=bz aa.bm trivial;have aP:=aa.ne;have cH:=aa.e3;have cO:=aa.fR;have a1:=aa.a1;have a4:=aa.a4;have bL:=aX G i;simp only[fv]at a8 aU;have bq:=mq cH cO aP rfl;unfold DS;have OA:=aCn c.data (by have:=al.data;omega)
 unfold Mv at OA;cases ax:oB c.data with
 |none=>
  simp only[ax]at OA;repeat' first|(refine ad ?_;simp only[go_sem,a8,aU,a3,a1,a4,bL,bq,aX])|refine bx ?_|(refine bD ?_ ?_<;>intro h<;>try exact bB h)|fail
  exact jG aa rfl aa.own.symm
 |some l=>
  simp only[ax]at OA ⊢;obtain⟨z,a2⟩:∃z,z=(if(200:Int)<(d.m.log.entries.length:Int)+((gn d.m.log [] l).length:Int)then(193,d)else
   if(nd d (gn d.m.log [] l)).1=0 then
    (0,{(nd d (gn d.m.log [] l)).2 with a:={(nd d (gn d.m.log [] l)).2.a with n:=(gn d.m.log [] l).length},m:={(nd d (gn d.m.log [] l)).2.m with seen:=l.foldl (fun n o=>ov n o.at_) d.m.seen}})
   else nd d (gn d.m.log [] l)):=⟨_,rfl⟩
  rw[<-a2];have aSC:l.length<=1048576:=gU (aAp ax) al.data;have mj:∀o∈l,pz o:=fun o aN=>TA (KX ax o aN)
  repeat' first|(refine ad ?_;simp only[go_sem,a8,aU,a3,a1,a4,bL,bq,aX])|refine af ?_|fail
  refine sF 6 7 rfl ?_;obtain⟨cd,lY⟩:∃cd,cd=gn d.m.log [] l:=⟨_,rfl⟩;obtain⟨yM,u4⟩:∃yM,yM=l.foldl (fun n o=>ov n o.at_) d.m.seen:=⟨_,rfl⟩
  rw[<-lY,<-u4]at a2;refine jY (ι:=ab) (fun M=>[(0,.ref i 0 0),(5,.int .i64 yM),(6,.osl 7 G.length (cd.length+1) 0 cd.length cd.length)]) (fun M=>G++(.cells (cd.length+1) (aI bY cd)::M)) (fun _=>cd.length<=l.length) ?_ fun M eu=>?_
  ·refine b5 (ι:=Nat×Int×List bf×ab) (fun s=>[(0,.ref i 0 0),(5,.int .i64 s.2.1),(6,.osl 7 G.length (s.2.2.1.length+1) 0 s.2.2.1.length s.2.2.1.length),(29,.sl false (l.map bY)),(30,.int .i64 l.length),(31,.int .i64 s.1)])
    (fun s=>G++(.cells (s.2.2.1.length+1) (aI bY s.2.2.1)::s.2.2.2)) (fun s=>s.1<=l.length∧s.2.2.1.length<=s.1∧cd=gn d.m.log s.2.2.1 (l.drop s.1)∧yM=(l.drop s.1).foldl (fun n o=>ov n o.at_) s.2.1) (fun s=>l.length-s.1) (0,d.m.seen,[],[]) ⟨bG _,bk _,lY,u4⟩ ?_ rfl ?_
   ·simp[go_sem]
   rintro⟨k,s,acc,M⟩ ⟨hk,jZ,gC,iI⟩;simp only at hk jZ gC iI ⊢;obtain⟨cZ,aT⟩:∃cZ,G++(.cells (acc.length+1) (aI bY acc)::M)=cZ:=⟨_,rfl⟩;rw[aT];have cw:ao cZ G.length=.cells (acc.length+1) (aI bY acc):=by rw[<-aT];simp only[go_sem]
   have aZ:=bz cw trivial;have a7:=jI cw trivial;have gs:∀X,ai cZ G.length X=G++(X::M):=fun X=>by rw[<-aT];simp only[go_sem]
   have kf:gv i j c d cZ:=aT▸aa.app _;have qL:=kf.aV;have cK:=bz kf.aV trivial;simp only[fv]at qL cK;by_cases ak:k<l.length
   ·have kz:=eo ak;rw[kz,gn]at gC;rw[kz,nZ]at iI;have cG:=dg bY ak;obtain⟨o,aN⟩:∃o,o=l[k]:=⟨_,rfl⟩;rw[<-aN]at gC iI cG;simp only[bY]at cG;have aH:decide ((k:Int)<(l.length:Int))=true:=b1;have FL:=aD8 s o.at_ true;have z0:=T6 false false d.m.log o.at_;simp only[p7,xd]at z0;have hw:=dW ak (by omega)
    have eu:=dE (enc:=bY) (s:=7) (fun _=>rfl) acc
    have tJ:=aEp acc o G.length (acc.length+1) acc.length acc.length cZ.length rfl (bk _) (by omega) (cZ++[.cells 0 [.int .i64 o.at_.c,.int .i64 o.at_.r,.int .i64 o.kind,.int .i64 o.node,.int .i64 o.parent,.str o.name,.str o.data]]) (aZ _) (rf _ _)
    have jN:(∀e,e=I.agg [.int .i64 o.at_.c,.int .i64 o.at_.r,.int .i64 o.kind,.int .i64 o.node,.int .i64 o.parent,.str o.name,.str o.data]->e.cells.length=7)=True:=bJ (fun e he=>by rw[he];rfl)
    have kT:((acc.length+1) * 72<=140737488355328)=True:=bJ (by omega)
    cases cf:pe d.m.log.entries o.at_ with
    |true=>
     rw[cf]at z0 gC;repeat' first|(refine ad ?_;simp only[go_sem,qL,cK,cw,aZ,a7,cG,aH,ak])|refine af ?_|fail
     exact⟨(k+1,ov s o.at_,acc,M++[.cells 0 (bY o).cells]),⟨ak,by simp only;omega,by simpa using gC,iI⟩,by simp only;omega,⟨rfl,rfl,bH _ hw⟩,by show cZ++[.cells 0 (bY o).cells]=_;rw[<-aT];simp⟩
    |false=>
     rw[cf]at z0 gC;cases bK:acc.any (fun f=>decide (f.at_=o.at_))with
     |true=>
      rw[bK]at tJ gC;repeat' first|((first|refine ea (tJ) (aA) ?_|refine ep (tJ) (aA) ?_|refine er (fun _=>tJ) (aA) ?_|refine ad ?_);simp only[go_sem,qL,cK,cw,aZ,a7,cG,aH,ak])|refine af ?_|fail
      exact⟨(k+1,ov s o.at_,acc,M++[.cells 0 (bY o).cells]),⟨ak,by simp only;omega,by simpa using gC,iI⟩,by simp only;omega,⟨rfl,rfl,bH _ hw⟩,by show cZ++[.cells 0 (bY o).cells]=_;rw[<-aT];simp⟩
     |false=>
      rw[bK]at tJ gC;repeat' first|((first|refine ea (tJ) (aA) ?_|refine ep (tJ) (aA) ?_|refine er (fun _=>tJ) (aA) ?_|refine ad ?_);simp only[go_sem,qL,cK,cw,aZ,a7,cG,aH,ak,jN,kT,eu])|refine af ?_|fail
      refine⟨(k+1,ov s o.at_,acc++[o],M++[.cells 0 (bY o).cells]),⟨ak,by simp only[bt,cm,ew];omega,by simpa using gC,iI⟩,by simp only;omega,⟨rfl,?_,bH _ hw⟩,?_⟩
      ·simp
      ·rw[gs];simp[iu,pK,Hc,bY,I.cells]
   ·have g3:k=l.length:=by omega
    have aH:decide ((k:Int)<(l.length:Int))=false:=cg;repeat' first|(refine ad ?_;simp only[go_sem,aH])|refine af ?_|fail
    have h9:acc=cd:=by rw[gC,g3,l7];rfl
    have FL:s=yM:=by rw[iI,g3,l7];rfl
    rw[<-h9,<-FL];exact⟨M,by omega,⟨rfl,rfl⟩,aT.symm⟩
  refine wQ [6] (cd.map bY) (v:=cd.length+1) (lc:=cd.length) (i:=G.length) (s:=7) (cs:=aI bY cd) (by intro t aj;simp only[dA]at aj;subst aj;rw[cP];simp only[go_sem]) (by simp only[go_sem]) (by omega) rfl (fun e he=>by(obtain⟨x, -,rfl⟩:=bP.1 he;rfl)) ?_
  simp only[go_sem,dn,im];obtain⟨y8,Fa⟩:∃y8:ab,y8=.gone::M:=⟨_,rfl⟩;rw[<-Fa];have ga:=hc.1;have Wz:IntKind.i64.wrap ((d.m.log.entries.length:Int)+(cd.length:Int))=(d.m.log.entries.length:Int)+(cd.length:Int):=cB;by_cases I2:(200:Int)<(d.m.log.entries.length:Int)+(cd.length:Int)
  ·have h2:decide ((200:Int)<(d.m.log.entries.length:Int)+(cd.length:Int))=true:=cF I2;rw[aF I2]at a2;subst a2;repeat' first|(refine ad ?_;simp only[go_sem,a8,aU,a3,a1,a4,bL,bq,aX,Wz,h2])|refine bx ?_|(refine bD ?_ ?_<;>intro h<;>try exact bB h)|fail
   exact sQ aa rfl aa.own.symm
  have h2:decide ((200:Int)<(d.m.log.entries.length:Int)+(cd.length:Int))=false:=b8 I2;rw[az I2]at a2;have Cv:∀o∈cd,pz o:=fun o aN=>by
   rw[lY]at aN;rcases KB _ _ _ o aN with h|h
   ·cases h
   ·exact mj o h
  repeat' first|(refine ad ?_;simp only[go_sem,a8,aU,a3,a1,a4,bL,bq,aX,Wz,h2])|refine af ?_|fail
  refine jY (ι:=cS×ab) (fun _=>[(0,.ref i 0 0),(5,.int .i64 yM),(6,.sl false (cd.map bY))]) (fun s=>gg G i j c s.1++s.2) (fun s=>nd d cd=(0,s.1)) ?_ fun⟨g1,M2⟩ zV=>?_
  ·refine b5 (ι:=Nat×cS×ab) (fun s=>[(0,.ref i 0 0),(5,.int .i64 yM),(6,.sl false (cd.map bY)),(72,.sl false (cd.map bY)),(73,.int .i64 cd.length),(74,.int .i64 s.1)]) (fun s=>gg G i j c s.2.1++s.2.2)
    (fun s=>s.1<=cd.length∧nd d cd=nd s.2.1 (cd.drop s.1)∧Ld d s.2.1 s.1) (fun s=>cd.length-s.1) (0,d,y8) ⟨bG _,rfl,⟨hs,hc.1,by have:=hc.2;simp only;omega,bk _⟩⟩ ?_ (by rw[aa.own]) ?_
   ·simp[go_sem]
   rintro⟨k,g1,M2⟩ ⟨hk,jZ,zV⟩;simp only at hk jZ zV ⊢;obtain⟨fS,jq⟩:∃fS,gg G i j c g1++M2=fS:=⟨_,rfl⟩;have tu:gv i j c g1 fS:=jq▸(aa.put g1).app M2;have tO:∀d2,gg fS i j c d2=gg G i j c d2++M2:=fun d2=>by rw[<-jq,(aa.put g1).Cr,aa.AW]
   rw[jq];by_cases ak:k<cd.length
   ·have kz:=eo ak;rw[kz,nd]at jZ;have cG:=dg bY ak;have JD:=Cv _ (hv ak);obtain⟨o,aN⟩:∃o,o=cd[k]:=⟨_,rfl⟩;rw[<-aN]at jZ cG JD;simp only[bY]at cG;have aH:decide ((k:Int)<(cd.length:Int))=true:=b1;have hw:=dW ak (by omega)
    have Ac:=zV.ops;repeat' first|(refine ad ?_;simp only[go_sem,cG,aH,ak])|refine af ?_|fail
    refine c6 (TQ (tu.app _) zV.bc (o:=o) JD (by omega)) (aA) ?_
    rintro v H' ⟨rfl,rfl⟩;rw[tu.Cr,tO];have mL:=aAo zV (by omega) JD
    obtain⟨⟨x,d1⟩,o8⟩:∃r,oD g1 o=r:=⟨_,rfl⟩;rw[o8]at jZ mL ⊢;simp only[go_sem]at jZ mL ⊢;by_cases J:x=0
    ·subst J;rw[aF rfl]at jZ;repeat' first|(refine ad ?_;simp only[go_sem])|refine af ?_|fail
     exact⟨(k+1,d1,M2++[.cells 0 (bY o).cells]),⟨ak,jZ,mL⟩,by simp only;omega,bH _ hw,by simp[bY,I.cells]⟩
    ·have hd:decide (x=0)=false:=b8 J;rw[az J]at jZ;rw[jZ,az J]at a2;subst a2;repeat' first|(refine ad ?_;simp only[go_sem,hd])|refine bx ?_|(refine bD ?_ ?_<;>intro h<;>try exact bB h)|fail
     exact sQ aa rfl rfl
   ·have g3:k=cd.length:=by omega
    have aH:decide ((k:Int)<(cd.length:Int))=false:=cg;repeat' first|(refine ad ?_;simp only[go_sem,aH])|refine af ?_|fail
    rw[g3,l7,nd]at jZ;exact⟨(g1,M2),jZ,jq.symm⟩
  simp only at zV;rw[zV]at a2;simp only[dI]at a2;have aSH:=Hd G i j c g1;obtain⟨dd,ek⟩:∃dd,gg G i j c g1=dd:=⟨_,rfl⟩;have gB:gv i j c g1 dd:=ek▸aa.put g1;have E6:dd.length=G.length:=by rw[<-ek,Hd]
  have tO:∀d2,gg dd i j c d2=gg G i j c d2:=fun d2=>by rw[<-ek,aa.AW]
  simp only;rw[ek];have a8:=gB.aV;have aU:=bz gB.aV trivial;have a3:=bz gB.bm trivial;have aP:=gB.ne;have cH:=gB.e3;have cO:=gB.fR;have a1:=gB.a1;have a4:=gB.a4;have bL:=E6;simp only[fv]at a8 aU;have bq:=mq cH cO aP E6;subst a2;repeat' first|(refine ad ?_;simp only[go_sem,a8,aU,a3,a1,a4,bL,bq,aX])|refine bx ?_|(refine bD ?_ ?_<;>intro h<;>try exact bB h)|fail
  refine sQ aa rfl ?_;rw[<-tO];exact gB.one (d':={g1 with a:={g1.a with n:=cd.length},m:={g1.m with seen:=yM}}) rfl
end
end Go.Proofs.YthafnbmdmfoobaaGreatDoor
