/- What the functions of this seat answer (45 of 53). No condition. -/
import Derived.Test.YtnmamncmpklliaaGreatDoorWorkBR
set_option linter.unusedSimpArgs false
set_option linter.unusedVariables false
set_option maxRecDepth 100000
set_option maxHeartbeats 16000000
namespace Go.Proofs.YtnmamncmpklliaaGreatDoor
variable{i n:Nat}{G H:ab}
open Go.Proofs.Tryz
def SZ:List cu:=[.free,.free,.pure 0,.pure 0,.pure 0,.pure 0,.pure 0,.free,.eff [true,false,true,true,true],.pure 0,.pure 0,.pure 0,.eff [false,true,true,false,false,false,false]]
attribute [go_sem] SZ
structure sL (p aB hK hP jt kx lw:Nat) (t:fl) (G:ab):Prop where
 ad:ay G p=.cells 0 [.osl 2 aB hP 0 t.held.length kx,.osl 2 hK jt 0 t.waits.length lw]
 h1:∃r,ay G aB=.cells hP (aS bx t.held++r)/\(aS bx t.held++r).length=kx * 2/\∀x∈r,b6 x
 h2:∃r,ay G hK=.cells jt (aS bx t.waits++r)/\(aS bx t.waits++r).length=lw * 2/\∀x∈r,b6 x
def G5(o:Option Int):I:=.aQ [.int .i64 (o.getD 0),.bool o.isSome]
theorem aHN{n:Int}(hi:ay G i=.cells 0 [.int .i64 n])(s:dx):aM prog 264 [bx s,.ref i 0 0] G (.bool<|decide (s.lock=n)):=by
 refine aZ func264 ?_;have J:=bC hi trivial;refine bP bx.eq_1 ?_;exact aV<|.refl _
theorem DS{J:ab}{b:bE}(h:∀(j:Nat) (c:bE),H[j]?=some c->J[j]?=some c\/ep n c)(U:ep n b):∀(j:Nat) (c:bE),(ar H i b)[j]?=some c->J[j]?=some c\/ep n c:=λj c K=>(pn U j c K).elim (h j c) .inr
theorem PG(l:List dx)(r:List I)(U:∀x∈r,b6 x)(n v:Nat):ep n (.cells v<|aS bx l++r):=λx J=>(e4.1 J).elim (λh=>(y4 (λx=>nb) _ x h).cl _) λh=>(U x h).cl _
theorem PH{j a b c d e f:Nat}(h1:i<n)(h2:j<n):ep n (.cells 0 [.osl 2 i a 0 b c,.osl 2 j d 0 e f]):=λx J=>by
 simp only[cU,lj,lk]at J;rcases J with rfl|rfl<;>exact .osl _ _ _ _ _ _<|by assumption
theorem V0{α:Type}[DecidableEq α](p:α->Bool)(l:List α)(a:Nat)(h:eT p l=(a:Int))(J:a<l.length):p l[a]=true/\l.erase l[a]=l.eraseIdx a:=by
 induction l generalizing a with
 |nil=>simp at J
 |cons x l K=>
  unfold eT at h;cases ad:p x with
  |true=>
   simp only[ad,dG]at h;have:a=0:=iV
   subst this;exact⟨ad,kk⟩
  |false=>
   simp only[ad,mE,gz]at h;have:=Ju p l;split at h
   ·omega
   ·obtain⟨a,rfl⟩:∃b,a=b+1:=⟨a-1,iV⟩
    obtain⟨i1,i2⟩:=K a iV<|by simpa using J
    refine⟨i1,?_⟩;rw[List.getElem_cons_succ,List.erase_cons_tail,i2,List.eraseIdx_cons_succ];intro U;rw[rK]at U;rw[<-U,ad]at i1;exact absurd i1 l9
theorem WK{p U K O T V lw:Nat}{t:fl}(hs:sL p U K O T V lw t G)(d1:p≠U)(d2:p≠K)(d3:U≠K)(aO:V<=1000000)(bo:lw<=1000000)(n k:Int):
  dp prog 231 [.ref p 0 0,.int .i64 n,.int .i64 k] G (λv H'=>v=G5 (fy t n k).2/\sL p U K O T V lw (fy t n k).1 H'/\H'.length=G.length/\∀j,j≠p->j≠U->j≠K->ay H' j=ay G j):=by
 refine jw func231 ?_;obtain⟨ad,⟨a6,h1,ca,C9⟩,⟨a8,h2,cy,rD⟩⟩:=hs;have vp:=bC ad trivial;have g1:=bC h1 trivial;have g2:=bC h2 trivial;have av:(aS bx t.held).length=t.held.length * 2:=ej (enc:=bx) (s:=2) (λ_=>rfl) _
 have al:(aS bx t.waits).length=t.waits.length * 2:=ej (enc:=bx) (s:=2) (λ_=>rfl) _
 have c1:t.held.length<=V:=by rw[bF,av]at ca;omega
 have c2:t.waits.length<=lw:=by rw[bF,al]at cy;omega
 have qi:∀H,ay H U=.cells O (aS bx t.held++a6)->aM prog 262 [.osl 2 U O 0 t.held.length V,bx ⟨k,n⟩] H (.int .i64<|eT (λx=>decide ((⟨k,n⟩:dx)=x)) t.held):=λH h=>aHM t.held ⟨k,n⟩ U O V t.held.length rfl c1 iV a6 H h
 simp only[bx]at qi;unfold fy;rcases Ji (λx:dx=>decide<|(⟨k,n⟩:dx)=x) t.held with⟨aP,aR⟩|⟨a,aF,aP,aR⟩
 ·rw[aP]at qi;have cH:¬t.held.contains ⟨k,n⟩=true:=λau=>by
   have:=wF.1 aR ⟨k,n⟩<|by simpa using au
   simp at this
  simp only[aj cH];repeat' first|((first|refine hY (qi _<|by simp only[go_sem,ad,vp,h1,g1,Int.reduceLT]) aK ?_|refine kf (qi _<|by simp only[go_sem,ad,vp,h1,g1,Int.reduceLT]) aK ?_|refine kg (λ_=>qi _<|by simp only[go_sem,ad,vp,h1,g1,Int.reduceLT]) aK ?_|refine ae ?_);simp only[go_sem,ad,vp,h1,g1,Int.reduceLT])|refine bt ?_|(refine bB ?_ ?_<;>intro h<;>try exact bA h)|fail
  exact⟨G,_,G5 none,rfl,rfl,λi b h=>.inl h,fv.yA (.refl _) nb,rfl,⟨ad,⟨a6,h1,ca,C9⟩,⟨a8,h2,cy,rD⟩⟩,rfl,λ_ _ _ _=>rfl⟩
 ·rw[aP]at qi;have aBd:t.held[a]=⟨k,n⟩:=by have:=List.find?_some aR;simpa[eq_comm]using this
  have od:t.held.contains ⟨k,n⟩=true:=by simp only[Dp];rw[<-aBd];exact ga aF
  have LJ:decide ((a:Int)<0)=false:=cQ;have NA:IntKind.i64.wrap ((a:Int)+1)=((a+1:Nat):Int):=dA aF iV
  simp only[aA od];repeat' first|((first|refine hY (qi _<|by simp only[go_sem,ad,vp,h1,g1,LJ,NA]) aK ?_|refine kf (qi _<|by simp only[go_sem,ad,vp,h1,g1,LJ,NA]) aK ?_|refine kg (λ_=>qi _<|by simp only[go_sem,ad,vp,h1,g1,LJ,NA]) aK ?_|refine ae ?_);simp only[go_sem,ad,vp,h1,g1,LJ,NA])|refine bt ?_|(refine bB ?_ ?_<;>intro h<;>try exact bA h)|fail
  have s1:=gN h1 trivial;refine dU (Ye t.held a U O V t.held.length rfl aF iV a6 _ (g1 _) ca C9) aK ?_
  rintro v H' ⟨Z,rfl,rfl,IM,Tf⟩;rw[s1];obtain⟨D,cc⟩:∃D,D=t.held.eraseIdx a:=⟨_,rfl⟩;have EJ:t.held.erase ⟨k,n⟩=D:=by
   rw[cc,<-aBd];exact(V0 _ _ _ aP aF).2
  have uf:D.length=t.held.length-1:=by rw[cc,List.length_eraseIdx,aA aF]
  rw[<-cc]at IM ⊢;have i1:=dk h1 trivial;have ip:=dk ad trivial;obtain⟨dh,eI⟩:∃dh,ar G U (.cells O<|aS bx D++Z)=dh:=⟨_,rfl⟩;have cq:ay dh U=.cells O (aS bx D++Z):=by rw[<-eI];exact dR i1 _
  have pp:ay dh p=.cells 0 [.osl 2 U O 0 t.held.length V,.osl 2 K T 0 t.waits.length lw]:=by rw[<-eI];exact bY ad iV _
  have cT:ay dh K=.cells T (aS bx t.waits++a8):=by rw[<-eI];exact bY h2 iV _
  have aNz:=bC pp trivial;have S5:=gN pp trivial;rw[eI];simp only[go_sem];repeat' first|(refine ae ?_;simp only[go_sem,aNz,S5])|refine ao ?_|fail
  have jp:=dk pp trivial;obtain⟨z,gg⟩:∃z,ar dh p (.cells 0 [.osl 2 U O 0 (t.held.length-1) V,.osl 2 K T 0 t.waits.length lw])=z:=⟨_,rfl⟩;have t1:ay z p=.cells 0 [.osl 2 U O 0 (t.held.length-1) V,.osl 2 K T 0 t.waits.length lw]:=by rw[<-gg];exact dR jp _
  have t2:ay z U=.cells O (aS bx D++Z):=by rw[<-gg];exact bY cq iV _
  have t3:ay z K=.cells T (aS bx t.waits++a8):=by rw[<-gg];exact bY cT iV _
  have qI:z.length=G.length:=by rw[<-gg,bc,<-eI,bc]
  have aBm:∀(i:Nat) (b:bE),z[i]?=some b->G[i]?=some b\/ep G.length b:=by rw[<-gg,<-eI];exact DS (DS (λ_ _ h=>.inl h) (PG D Z Tf _ _))<|PH i1 (dk h2 trivial)
  have aBI:∀j,j≠p->j≠U->j≠K->ay z j=ay G j:=λj c3 a2 a3=>by rw[<-gg,<-eI,ho<|ka c3,ho<|ka a2]
  have yC:=bC t1 trivial;have oS:=bC t2 trivial;have gs:=bC t3 trivial;have Fy:∀L:List bE,ay (z++.cells 0 [.int .i64 k]::L) G.length=.cells 0 [.int .i64 k]:=λL=>ur qI
  have aOM:aM prog 198 [.osl 2 K T 0 t.waits.length lw,.func (.func 264) [] [.ref G.length 0 0]] (z++[.cells 0 [.int .i64 k]]) (.int .i64<|eT (λx:dx=>decide (x.lock=k)) t.waits):=
   aII t.waits (λx:dx=>decide<|x.lock=k) K T lw t.waits.length rfl c2 iV a8 _ (gs _) λx=>.inl ⟨aK,aHN (Fy []) x⟩
  rw[gg];simp only[yC,go_sem];repeat' first|(refine ae ?_;simp only[go_sem,yC])|refine ao ?_|fail
  refine dU aOM aK ?_;rintro _ _ ⟨rfl,rfl⟩;rcases Ji (λx:dx=>decide<|x.lock=k) t.waits with⟨jO,z2⟩|⟨b,aa,jO,z2⟩
  ·rw[jO];simp only[z2];simp only[go_sem];repeat' first|(refine ae ?_;simp only[go_sem,yC,oS,gs,Int.reduceLT])|refine bt ?_|(refine bB ?_ ?_<;>intro h<;>try exact bA h)|fail
   exact⟨z,_,G5 none,rfl,qI,aBm,fv.yA (.refl _) nb,rfl,⟨by rw[EJ,uf];exact t1,⟨Z,by rw[EJ];exact t2,by rw[EJ];exact IM,Tf⟩,⟨a8,t3,cy,rD⟩⟩,qI,aBI⟩
  ·rw[jO];simp only[z2];have aMZ:decide ((b:Int)<0)=false:=cQ;have aR1:IntKind.i64.wrap ((b:Int)+1)=((b+1:Nat):Int):=dA aa iV
   have yU:=Kn (enc:=bx) (s:=2) (λ_=>rfl) aa a8
   simp only[bx,I.cells]at yU;have qe:b * 2+2<=(aS bx t.waits++a8).length:=by rw[bF,al];omega
   have s2:=gN t3 trivial;simp only[go_sem];repeat' first|(refine ae ?_;simp only[go_sem,yC,oS,gs,aMZ,aR1,yU,Fy])|refine ao ?_|fail
   refine dU (Ye t.waits b K T lw t.waits.length rfl aa iV a8 _ (gs _) cy rD) aK ?_
   rintro v H' ⟨zg,rfl,rfl,aBp,aCs⟩;rw[s2];obtain⟨E,gI⟩:∃E,E=t.waits.eraseIdx b:=⟨_,rfl⟩;have HK:t.waits.erase t.waits[b]=E:=by rw[gI];exact(V0 _ _ _ jO aa).2
   have EK:E.length=t.waits.length-1:=by rw[gI,List.length_eraseIdx,aA aa]
   rw[<-gI]at aBp ⊢;obtain⟨gD,lC⟩:∃gD,ar z K (.cells T<|aS bx E++zg)=gD:=⟨_,rfl⟩;have t1:ay gD p=.cells 0 [.osl 2 U O 0 (t.held.length-1) V,.osl 2 K T 0 t.waits.length lw]:=by rw[<-lC];exact bY t1 iV _
   have t2:ay gD U=.cells O (aS bx D++Z):=by rw[<-lC];exact bY t2 iV _
   have t3:ay gD K=.cells T (aS bx E++zg):=by rw[<-lC];exact dR (dk t3 trivial) _
   have aRP:gD.length=G.length:=by rw[<-lC,bc,qI]
   have yC:=bC t1 trivial;have S5:=gN t1 trivial;rw[lC];simp only[go_sem];repeat' first|((first|refine mx [10] SZ ?_|refine ae ?_);simp only[go_sem,yC,S5])|refine bt ?_|(refine bB ?_ ?_<;>intro h<;>try exact bA h)|fail
   have jp:=dk t1 trivial;obtain⟨x7,Cd⟩:∃x7,ar gD p (.cells 0 [.osl 2 U O 0 (t.held.length-1) V,.osl 2 K T 0 (t.waits.length-1) lw])=x7:=⟨_,rfl⟩;have t1:ay x7 p=.cells 0 [.osl 2 U O 0 (t.held.length-1) V,.osl 2 K T 0 (t.waits.length-1) lw]:=by rw[<-Cd];exact dR jp _
   have t2:ay x7 U=.cells O (aS bx D++Z):=by rw[<-Cd];exact bY t2 iV _
   have t3:ay x7 K=.cells T (aS bx E++zg):=by rw[<-Cd];exact bY t3 iV _
   have aRQ:x7.length=G.length:=by rw[<-Cd,bc,aRP]
   have yC:=bC t1 trivial;have oS:=bC t2 trivial;have aCk:=gN t2 trivial;have MR:∀B L,ay (x7++B::.cells 0 [.int .i64 t.waits[b].lock,.int .i64 t.waits[b].aU]::L) (z.length+1)=.cells 0 [.int .i64 t.waits[b].lock,.int .i64 t.waits[b].aU]:=λB L=>y3 (k:=1) iV
   have ak:t.held.length-1+1<=V:=iV
   have Qu:(aS bx D).length=(t.held.length-1) * 2:=by rw[ej (enc:=bx) (s:=2) (λ_=>rfl),uf]
   have aN:(t.held.length-1=V)=False:=x5 iV
   have dZ:=λa b=>rS (B:=Z) (X:=[.int .i64 a,.int .i64 b]) Qu
   rw[Cd];simp only[yC,MR,go_sem];repeat' first|((first|refine mx [10] SZ ?_|refine ae ?_);simp only[go_sem,yC,oS,aCk,MR,aN,IM])|refine bt ?_|(refine bB ?_ ?_<;>intro h<;>try exact bA h)|fail
   have Z4:aS bx (D++[t.waits[b]])=aS bx D++[.int .i64 t.waits[b].lock,.int .i64 t.waits[b].aU]:=iR ..;have aPD:dq (aS bx D++Z) ((t.held.length-1) * 2) [.int .i64 t.waits[b].lock,.int .i64 t.waits[b].aU]=aS bx (D++[t.waits[b]])++Z.drop 2:=by rw[dZ,Z4,dr];rfl
   obtain⟨zw,Ai⟩:∃zw,ar x7 U (.cells O<|aS bx (D++[t.waits[b]])++Z.drop 2)=zw:=⟨_,rfl⟩;have S6:ay zw p=.cells 0 [.osl 2 U O 0 (t.held.length-1) V,.osl 2 K T 0 (t.waits.length-1) lw]:=by rw[<-Ai];exact bY t1 iV _
   have aRM:ay zw K=.cells T (aS bx E++zg):=by rw[<-Ai];exact bY t3 iV _
   have aRL:ay zw U=.cells O (aS bx (D++[t.waits[b]])++Z.drop 2):=by rw[<-Ai];exact dR (dk t2 trivial) _
   have aNA:=bC S6 trivial;have aRH:=gN S6 trivial;have aQN:∀B L,ay (zw++B::.cells 0 [.int .i64 t.waits[b].lock,.int .i64 t.waits[b].aU]::L) (z.length+1)=.cells 0 [.int .i64 t.waits[b].lock,.int .i64 t.waits[b].aU]:=λB L=>y3 (k:=1)<|by rw[<-Ai,bc];omega
   simp only[oS,aN,gz,aPD,aCk,Ai,aNA,aRH,IM,go_sem];obtain⟨u3,Ce⟩:∃u3,ar zw p (.cells 0 [.osl 2 U O 0 (t.held.length-1+1) V,.osl 2 K T 0 (t.waits.length-1) lw])=u3:=⟨_,rfl⟩;have t1:ay u3 p=.cells 0 [.osl 2 U O 0 (t.held.length-1+1) V,.osl 2 K T 0 (t.waits.length-1) lw]:=by rw[<-Ce];exact dR (dk S6 trivial) _
   have t2:ay u3 U=.cells O (aS bx (D++[t.waits[b]])++Z.drop 2):=by rw[<-Ce];exact bY aRL iV _
   have t3:ay u3 K=.cells T (aS bx E++zg):=by rw[<-Ce];exact bY aRM iV _
   have aCo:u3.length=G.length:=by rw[<-Ce,bc,<-Ai,bc,aRQ]
   have aNB:=bC t1 trivial;have aQO:∀B L,ay (u3++B::.cells 0 [.int .i64 t.waits[b].lock,.int .i64 t.waits[b].aU]::L) (z.length+1)=.cells 0 [.int .i64 t.waits[b].lock,.int .i64 t.waits[b].aU]:=λB L=>y3 (k:=1) iV
   rw[Ce];simp only[aQN,aNB,go_sem];refine⟨⟨bd _,ak,λe he=>by rw[he];rfl⟩,?_⟩
   repeat' first|(refine ae ?_;simp only[go_sem,aQO])|refine bt ?_|(refine bB ?_ ?_<;>intro h<;>try exact bA h)|fail
   have Da:∀x∈Z.drop 2,b6 x:=λx J=>Tf x<|sA J
   have aQe:∀(i:Nat) (b:bE),u3[i]?=some b->G[i]?=some b\/ep G.length b:=by
    rw[<-Ce,<-Ai,<-Cd,<-lC];exact DS (DS (DS (DS aBm (PG E zg aCs _ _)) (PH i1 (dk h2 trivial))) (PG _ _ Da _ _))<|PH i1 (dk h2 trivial)
   have aQR:∀j,j≠p->j≠U->j≠K->ay u3 j=ay G j:=λj c3 a2 a3=>by rw[<-Ce,<-Ai,<-Cd,<-lC,ho<|ka c3,ho<|ka a2,ho<|ka c3,ho<|ka a3,aBI j c3 a2 a3]
   refine⟨u3,_,_,rfl,aCo,aQe,fv.yA (.refl _) nb,rfl,⟨by rw[EJ,HK,bF,uf,EK];exact t1,⟨Z.drop 2,by rw[EJ];exact t2,by rw[EJ,Z4,bF,bF,fT,Qu];rw[bF,Qu]at IM;simp only[cg,eg];omega,Da⟩,⟨zg,by rw[HK];exact t3,by rw[HK];exact aBp,aCs⟩⟩,aCo,aQR⟩
theorem NL{H':ab}(hl:H.length<=H'.length)(h:∀j,j<H.length->ay H' j=ay H j):∃L,H'=H++L:=by
 refine⟨H'.drop H.length,?_⟩;refine x3 λj=>?_
 rw[List.getElem?_append];split
 ·rename_i J;have:=h j J;simp only[ay,et]at this;rw[da J,da iV]at this ⊢
  exact bU some this
 ·rw[zm];congr 1;omega
theorem JR{v k lc:Nat}{cs r:List I}(D:List dx)(af:n<=i)(J:ay H i=.cells v cs)(U:cs=aS bx D++r)(hk:D.length=k):cL n H (.osl 2 i v 0 k lc) (.sl false<|D.map bx):=
 q3 (es:=D.map bx) (rest:=r) af J U (by rw[cv,hk]) (λe he=>by(obtain⟨x, -,rfl⟩:=bJ.1 he;rfl)) (λe he=>by(obtain⟨x, -,rfl⟩:=bJ.1 he;simp only[go_sem]))
theorem Yf(f1 f2:Bool)(t:fl)(H:ab):sL (H.length+3) (H.length+1) (H.length+2) 1 1 t.held.length t.waits.length t (H++sm H.length f1 f2 t):=by
 have U:=ej (enc:=bx) (s:=2) (λ_=>rfl) t.held
 have K:=ej (enc:=bx) (s:=2) (λ_=>rfl) t.waits
 unfold sm;exact⟨nb,⟨[],by simp only[go_sem];try simp,by simp[U],λx J=>by cases J⟩,⟨[],by simp only[go_sem];try simp,by simp[K],λx J=>by cases J⟩⟩
theorem aHm(f1 f2:Bool)(t:fl)(n k:Int)(h1:t.held.length<=1000000)(h2:t.waits.length<=1000000)(H:ab):aM prog 204 [fB f1 f2 t,.int .i64 n,.int .i64 k] H (.aQ [fB false false (fy t n k).1,.int .i64<|(fy t n k).2.getD 0,.bool (fy t n k).2.isSome]):=by
 refine aZ func204 ?_;have T:=On f1 f2 t h1 h2;simp only[fB]at T;refine bP fB.eq_1 ?_;obtain⟨J,K⟩:∃J,H++[bE.cells 0 [.sl f1 (t.held.map bx),.sl f2<|t.waits.map bx],bE.cells 0 [.sl true [],.sl true []]]=J:=⟨_,rfl⟩;rw[K];have V:J.length=H.length+2:=by rw[<-K];simp
 have g6:ay J (H.length+1)=.cells 0 [.sl true [],.sl true []]:=by rw[<-K];simp only[go_sem]
 refine dU (T _) aK ?_;rintro v H' ⟨rfl,rfl⟩;have hs:=Yf f1 f2 t J;have g6:=b3 g6 trivial<|sm J.length f1 f2 t;have z:(J++sm J.length f1 f2 t).length=H.length+6:=by rw[bF,V];rfl
 have Z:∀j,j<H.length->ay (J++sm J.length f1 f2 t) j=ay H j:=λj O=>by rw[<-K,dr];simp only[ay,et];rw[iP O]
 obtain⟨G,aW⟩:∃G,J++sm J.length f1 f2 t=G:=⟨_,rfl⟩;rw[aW]at hs g6 z Z ⊢;rw[V]at hs;have hs:sL (H.length+5) (H.length+3) (H.length+4) 1 1 t.held.length t.waits.length t G:=hs;simp only[go_sem];refine hH ?_;refine dU (WK hs iV iV iV h1 h2 n k) aK ?_
 rintro v H' ⟨rfl,⟨aP,⟨a6,aR, -, -⟩,⟨a8,bH, -, -⟩⟩,c8,I⟩;have g7:ay H' (H.length+1)=.cells 0 [.sl true [],.sl true []]:=by rw[I _ iV iV iV];exact g6
 unfold G5;have g8:=λv X=>dR (dk g7 trivial)<|.cells v X
 simp only[go_sem];refine hH ?_;obtain⟨X,U⟩:∃X,ar H' (H.length+1) (bE.cells 0 [.osl 2 (H.length+3) 1 0 (fy t n k).1.held.length t.held.length,.osl 2 (H.length+4) 1 0 (fy t n k).1.waits.length t.waits.length])=X:=⟨_,rfl⟩;have dW:ay X (H.length+3)=.cells 1 (aS bx (fy t n k).1.held++a6):=by rw[<-U];exact bY aR iV _
 have gy:ay X (H.length+4)=.cells 1 (aS bx (fy t n k).1.waits++a8):=by rw[<-U];exact bY bH iV _
 obtain⟨L,hp⟩:=NL (H:=H) (H':=X) (by rw[<-U,bc];omega) λj O=>by rw[<-U,ho iV,I _ iV iV iV,Z j O]
 rw[U];exact⟨L,.aQ [fB false false (fy t n k).1,.int .i64<|(fy t n k).2.getD 0,.bool (fy t n k).2.isSome],hp,.aQ _ _ rfl<|dj (.agg _ _ rfl (dj (JR _ iV dW rfl rfl) (dj (JR _ iV gy rfl rfl) fw))) (dj (.cl _ (.int _ _)) (dj (.cl _ (.bool _)) fw)),rfl⟩
theorem aIJ:Gy prog 280 bx 2:=KU 2 [.int .i64 0,.int .i64 0] func280 Oo
theorem aHn{n:Int}(hi:ay G i=.cells 0 [.int .i64 n])(s:dx):aM prog 281 [bx s,.ref i 0 0] G (.bool<|decide (s.aU=n)):=by
 refine aZ func281 ?_;have J:=bC hi trivial;refine bP bx.eq_1 ?_;exact aV<|.refl _
end Go.Proofs.YtnmamncmpklliaaGreatDoor
