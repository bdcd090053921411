/- What the functions of this seat answer (40 of 40). No condition. -/
import Derived.Test.YthafnbmdmfoobaaGreatDoorWorkBM
set_option linter.unusedSimpArgs false
set_option linter.unusedVariables false
set_option maxRecDepth 100000
set_option maxHeartbeats 16000000
namespace Go.Proofs.YthafnbmdmfoobaaGreatDoor
section
open Go.Srt
def QM:List cR:=[.free,.free,.pure 0,.pure 0,.pure 0,.pure 0,.free,.pure 0,.pure 0,.pure 0,.pure 0,.pure 0,.free,.free,.eff [false,true,true,true,true,true,true,true,true],.free]
attribute [go_sem] QM
theorem aCw(f2 f3:Bool)(a:hS)(h2:a.names.length<=1000000)(h3:a.events.length<=1000000)(H:ab):aY Tryz.prog 29 [il f2 f3 a] H (il false false a):=by
 refine bh Tryz.func29 ?_;have ag:=PT f2 a.names (by omega)
 have he:=Qj f3 a.events (by omega)
 refine b0 il.eq_1 ?_;exact bo (.refl _)
def Iu(a b:a9):Int:=sa a.mark b.mark
theorem aFd(a b:a9):decide (Iu a b<0)=wX a b:=by
 unfold Iu wX sa;by_cases h1:a.mark<b.mark
 ·simp[h1]
 ·by_cases h2:b.mark<a.mark<;>simp[h1,h2]
theorem aGg(a b:a9)(H:ab):aY Tryz.prog 31 [dQ a,dQ b] H (.int .i64 (Iu a b)):=by
 refine bh Tryz.func31 ?_;have h:=T5 a.mark b.mark;refine b0 dQ.eq_1 ?_;exact bo (.refl _)
theorem aGh:xD Tryz.prog (.func (.func 31) [] []) Iu:=fun a b H=>Or.inl ⟨(aA),aGg a b H⟩
theorem HN(l:List ba):(hK l).length<=l.length:=by
 unfold hK;exact gU (List.length_filterMap_le _ _) (by rw[List.length_range];exact bk _)
theorem Il{da:cb}{l:List a9}{x:bn}(al:iO da l x)(ag:x.aq.length<=1000)(a2:∀t∈x.aq,t.bp.names.length<=1000000∧t.bp.events.length<=1000000)(H:ab):aY Tryz.prog 14 [eY x] H (.sl false (l.map dQ)):=by
 refine bh Tryz.func14 ?_;have kv:=mT [(10,QM)];refine b0 (hC eY.eq_1 (hC e4.eq_1 gu.eq_1)) ?_;refine sF 3 14 rfl ?_;refine jY (ι:=ab×Nat) (fun s=>[(3,.osl 14 (H.length+1) s.2 0 (hK x.aq).length (hK x.aq).length)]) (fun s=>s.1) (fun s=>ao s.1 (H.length+1)=.cells s.2 (dG (hK x.aq))∧s.2≠0∧∃M,s.1=H++M) ?_ ?_
 ·refine b5 (ι:=Nat×ab×Nat) (fun s=>[(1,.ref H.length 0 0),(3,.osl 14 (H.length+1) s.2.2 0 (hK (x.aq.take s.1)).length (hK (x.aq.take s.1)).length),(9,.int .i64 x.aq.length),(10,.int .i64 s.1)])
   (fun s=>s.2.1) (fun s=>s.1<=x.aq.length∧ao s.2.1 H.length=.cells 0 (eY x).cells∧ao s.2.1 (H.length+1)=.cells s.2.2 (dG (hK (x.aq.take s.1)))∧s.2.2≠0∧∃M,s.2.1=H++M) (fun s=>x.aq.length-s.1) (0,H++[.cells 0 (eY x).cells,.cells 1 []],1) ⟨bG _,by simp only[go_sem],by simp only[go_sem,xr];rfl,Nat.one_ne_zero,⟨_,rfl⟩⟩ ?_ (by simp only[go_sem,eY,e4,gu]) ?_
  ·simp[go_sem,hK]
  rintro⟨i,X,bg⟩ ⟨hi,a8,aU,Dk,vm⟩;simp only at hi a8 aU Dk vm ⊢;have NW:H.length+1<X.length:=c8 aU trivial;have Xa:=fun M=>bQ a8 trivial M
  have oz:=fun M=>bQ aU trivial M
  have bq:=fun M b=>gW NW M b
  by_cases ak:i<x.aq.length
  ·have ae:=dg aR ak;have aH:decide ((i:Int)<(x.aq.length:Int))=true:=b1;have aa:((0:Int)<=(i:Int)∧(i:Int)<(x.aq.length:Int))=True:=bJ ⟨by omega,by omega⟩
   have Ak:(bg=0)=False:=uy Dk;have o2:=RH ak;have hle:=HN (x.aq.take i);rw[e8]at hle;have eM:=oa (hK (x.aq.take i));obtain⟨jA,la⟩:=a2 _ (hv ak);have zS:=aCw false false x.aq[i].bp jA la;generalize x.aq[i]=t at *;generalize hK (x.aq.take i)=F at *;simp only[il]at zS;have Xb:=a8;simp only[eY,e4,gu,I.cells]at a8 Xa;simp only[aR,g9,jd]at ae;cases hd:t.done with
   |false=>
    rw[hd,az (by decide),b2]at o2
    refine bW ?_;exact⟨(i+1,_,bg),⟨ak,Xa _,by simp only;rw[o2];exact oz _,Dk,AM vm _⟩,by simp only;omega,⟨by simp only[o2],bH _ (dW ak (by omega))⟩,rfl⟩
   |true=>
    rw[hd,aF rfl]at o2;have p1:=fun Y L=>rB (L:=L) (aX X (H.length+1) Y)
    have aSL:((F.length+1) * 176<=140737488355328)=True:=bJ (by omega)
    have jN:∀n:Int,(∀e,e=I.agg [.int .i64 i,.int .i64 t.dJ,.int .i64 t.mark,.int .i64 n,.int .i64 t.call.kind,.str t.call.path,.str t.call.to,.str t.call.data,.int .i64 t.call.n,.int .i64 t.bp.err,.str t.bp.data,.sl false (t.bp.names.map I.str),.int .i64 t.bp.n,.sl false (t.bp.events.map ct)]->e.cells.length=14)=True:=fun n=>bJ (fun e he=>by rw[he];rfl)
    cases he:t.ended with
    |false=>
     have nG:nh i t=⟨i,t.dJ,t.mark,0,t.call,t.bp⟩:=by unfold nh;rw[he];rfl
     refine bW ?_;refine⟨(i+1,_,bg+1),⟨ak,bQ (bM Xb (by omega) _) trivial _,?_,Nat.succ_ne_zero _,AM (mb vm (by omega) _) _⟩,by simp only;omega,⟨by simp only[o2,bt,uv],bH _ (dW ak (by omega))⟩,rfl⟩
     simp only;rw[o2,nG,Hh];exact bQ (wi NW (.cells (bg+1) (dG F++dG [⟨i,t.dJ,t.mark,0,t.call,t.bp⟩]))) trivial _
    |true=>
     have nG:nh i t=⟨i,t.dJ,t.mark,t.end_,t.call,t.bp⟩:=by unfold nh;rw[he];rfl
     refine bW ?_;refine⟨(i+1,_,bg+1),⟨ak,bQ (bM Xb (by omega) _) trivial _,?_,Nat.succ_ne_zero _,AM (mb vm (by omega) _) _⟩,by simp only;omega,⟨by simp only[o2,bt,uv],bH _ (dW ak (by omega))⟩,rfl⟩
     simp only;rw[o2,nG,Hh];exact bQ (wi NW (.cells (bg+1) (dG F++dG [⟨i,t.dJ,t.mark,t.end_,t.call,t.bp⟩]))) trivial _
  ·have fx:i=x.aq.length:=by omega
   have aH:decide ((i:Int)<(x.aq.length:Int))=false:=cg;rw[fx,eQ]at aU ⊢;rw[fx]at aH;refine bW ?_;exact⟨(X,bg),⟨aU,Dk,vm⟩,rfl,rfl⟩
 ·rintro⟨X,bg⟩ ⟨aU,Dk,vm⟩;simp only at aU Dk vm ⊢;have hle:=HN x.aq;refine aT ?_;refine c6 (aCv Uu aFd _ _ _ aGh (H.length+1) bg _ _ (by omega) (hK x.aq) rfl X aU) (aA) ?_
  rintro r H' ⟨rfl,S,s1,s2,rfl⟩;have sl:=s1.1;rw[aEK al s2 s1]at sl ⊢;simp only[go_sem];refine aT ?_;obtain⟨M,kO⟩:=mb (i:=H.length+1) vm (by omega) (.cells bg (dG l))
  exact⟨M,.sl false (l.map dQ),kO,tV (enc:=dQ) (D:=l) (by omega) (m2 aU trivial _) sl (fun _=>rfl) (fun x=>by simp only[go_sem]),rfl⟩
end
section
open Go.Srt
def Du(p:a9):Bool:=pP p.call||(decide ((300:Int)<(p.bp.names.length:Int))||decide ((300:Int)<(p.bp.events.length:Int)))
def xE(l:List a9):Bool:=l.all (fun p=> !Du p)&&decide ((l.length:Int)<=40)
theorem TT{l:List a9}(h:xE l=true):(∀p∈l,jh p.call)∧l.length<=40:=by
 unfold xE at h;simp only[dD,hR,gT,nk]at h;refine⟨fun p ae=>L7 ?_,by omega⟩
 have:=h.1 p ae;unfold Du at this;exact(xl.1 this).1
structure ka (da:cb) (q:Nat) (x:bn):Prop where
 ks:j8 q x
 al:∃l,iO da l x
 time:x.time<=q
theorem Z9(who:Nat)(t:ba)(u:eR)(x:bn):(oA who t u x).time=x.time:=by
 unfold oA vT vU xT vY xL
 (repeat' split)<;>rfl
theorem aAa(full:Bool)(who:Nat)(x:bn):(mS full who x).time=x.time:=by
 unfold mS;split<;>rfl
theorem ka.start{da:cb}{q:Nat}{x:bn}(h:ka da q x)(aS:q<=1000){k:b3}(hk:jh k):ka da (q+1) (mc x k).1:=by
 obtain⟨l,hl⟩:=h.al;have aj:=h.time;have aC:=hl.time;refine⟨(h.ks.start hk).up (pq q),⟨l,hl.start (by omega) k⟩,?_⟩
 unfold mc;split
 ·exact yX aj (by omega)
 ·show IntKind.i64.wrap (x.time+1)<=_;rw[cB];omega
theorem ka.step{da:cb}{q:Nat}{x:bn}(h:ka da q x)(aS:q<=1000)(p:Int)(full:Bool):ka da (q+1) (ow x p full):=by
 obtain⟨l,hl⟩:=h.al;have aj:=h.time;have aC:=hl.time;refine⟨h.ks.step p full,hl.step h.ks.ci (by omega) p full,?_⟩
 have e:(p8 x).time<=((q+1:Nat):Int):=by
  show IntKind.i64.wrap (x.time+1)<=_;rw[cB];omega
 unfold ow;split
 ·omega
 ·unfold wo;split
  ·rw[aAa];exact e
  ·rw[Z9];exact e
theorem ka.run{da:cb}:∀(l:List Int) {q:Nat} {x:bn},ka da q x->q+l.length<=1000->ka da (q+l.length) (uJ x l)
 |[],_,_,h,_=>h
 |p::l,q,x,h,aS=>by
  rw[cm]at aS ⊢;have:=ka.run l (h.step (by omega) p false) (by omega)
  rw[Nat.add_comm l.length,<-vJ];exact this
theorem ka.act{da:cb}{q:Nat}{x:bn}(h:ka da q x)(aS:q<=1000){a:q1}(hk:jh a.call):ka da (q+1) (EP x a):=by
 unfold EP;split
 ·exact h.start aS hk
 ·exact h.step aS _ _
theorem HZ{r:Int}{x:bn}(h:nR r=(x,0)):ka x.m 0 x:=by
 refine⟨aF2 h,⟨_,aCN h⟩,?_⟩;unfold nR at h;split at h
 ·cases h;exact iM _
 ·rename_i aC;exact absurd (bH Prod.snd h) aC
theorem iO.all{da:cb}{l:List a9}{x:bn}(h:iO da l x)(c:eC x):(∀p∈l,jh p.call)∧l.length<=x.aq.length∧uo l=true:=by
 refine⟨fun p ae=>?_,?_,?_⟩
 ·obtain⟨i,t,aj, -,rfl⟩:=GK (h.perm.mem_iff.1 ae);exact c.cs t (df aj)
 ·rw[h.perm.length_eq];exact HN _
 ·obtain⟨h1,h2⟩:=Df l da none h.ok;exact MH (Tc h1 fun p ae=>(h2 p ae).2)
theorem ka.bp{da:cb}{q:Nat}{x:bn}(h:ka da q x):∀t∈x.aq,t.bp.names.length<=1000000∧t.bp.events.length<=1000000:=fun t aj=>by
 have:=(h.ks.q t aj).2;exact⟨gU this.1 (by decide),gU this.2.1 (by decide)⟩
theorem ka.data{da:cb}{q:Nat}{x:bn}(h:ka da q x){l:List a9}(hl:iO da l x):∀p∈l,p.bp.data.length<=1000:=fun p ae=>by
 obtain⟨i,t,aj, -,rfl⟩:=GK (hl.perm.mem_iff.1 ae);exact(h.ks.q t (df aj)).2.2.2
theorem Mf(aV:Bool)(l:List q1)(H:ab):aY Tryz.prog 11 [.sl aV (l.map lP)] H (.bool (vq l)):=by
 refine GS fun bl=>?_
 have hl:=lI bl;rw[cP]at hl;refine bh Tryz.func11 ?_;refine aT ?_;refine b5 (ι:=Nat) (fun i=>[(0,.sl aV (l.map lP)),(3,.int .i64 i)]) (fun _=>H) (fun i=>i<=l.length∧∀a∈l.take i,pP a.call=false) (fun i=>l.length-i) 0 ⟨bG _,by simp⟩ ?_ rfl ?_
 ·simp[go_sem]
 ·rintro i ⟨hi,he⟩;by_cases ak:i<l.length
  ·have ae:=dg lP ak;have an:=LZ true [l[i].call] 1;have h9:ud [l[i].call] 1= !pP l[i].call:=by unfold ud;simp
   rw[h9]at an;simp only[dn,im,cJ]at an;have aH:decide ((i:Int)<(l.length:Int))=true:=b1;cases mj:pP l[i].call with
   |true=>
    rw[mj]at an;repeat' first|(refine ad ?_;simp only[go_sem,ae,lP,aH])|refine af ?_|fail
    have:vq l=false:=by
     unfold vq;rw[Bool.and_eq_false_iff];left;rw[vC];intro q;have aO:=gT.1 q l[i] (hv _);rw[mj]at aO;cases aO
    rw[this];exact bC (.refl _)
   |false=>
    rw[mj]at an;repeat' first|(refine ad ?_;simp only[go_sem,ae,lP,aH])|refine af ?_|fail
    refine⟨i+1,⟨ak,fun x J=>?_⟩,by omega,by rw[cB];rfl⟩
    rw[eB ak]at J;rcases eX.1 J with J|J
    ·exact he x J
    ·rw[dA]at J;subst J;exact mj
  ·have fx:i=l.length:=by omega
   subst fx;have aH:decide ((l.length:Int)<(l.length:Int))=false:=by simp
   refine bW ?_;refine bC (.of (bH I.bool ?_));unfold vq;rw[eQ]at he;have:l.all (fun a=> !pP a.call)=true:=gT.2 fun a aD=>by rw[he a aD];rfl
   rw[this,hG]
theorem Tf(aV:Bool)(l:List a9)(H:ab):aY Tryz.prog 19 [.sl aV (l.map dQ)] H (.bool (xE l)):=by
 refine GS fun bl=>?_
 have hl:=lI bl;rw[cP]at hl;refine bh Tryz.func19 ?_;refine aT ?_;refine b5 (ι:=Nat) (fun i=>[(0,.sl aV (l.map dQ)),(3,.int .i64 i)]) (fun _=>H) (fun i=>i<=l.length∧∀a∈l.take i,Du a=false) (fun i=>l.length-i) 0 ⟨bG _,by simp⟩ ?_ rfl ?_
 ·simp[go_sem]
 ·rintro i ⟨hi,he⟩;by_cases ak:i<l.length
  ·have ae:=dg dQ ak;have an:=LZ true [l[i].call] 1;have h9:ud [l[i].call] 1= !pP l[i].call:=by unfold ud;simp
   rw[h9]at an;simp only[dn,im,cJ]at an;simp only[dQ]at ae;have aH:decide ((i:Int)<(l.length:Int))=true:=b1;have bX:Du l[i]=true->xE l=false:=fun mj=>by
    unfold xE;rw[Bool.and_eq_false_iff];left;rw[vC];intro q;have aO:=gT.1 q l[i] (hv _);rw[mj]at aO;cases aO
   have fe:Du l[i]=(pP l[i].call||(decide ((300:Int)<(l[i].bp.names.length:Int))||decide ((300:Int)<(l[i].bp.events.length:Int)))):=rfl
   generalize pP l[i].call=lc at *;repeat' first|(refine ad ?_;simp only[go_sem,ae,aH,cP])|refine bx ?_|(refine bD ?_ ?_<;>intro h<;>try exact bB h)|fail
   ·rw[bX (by rw[fe];simpa[Bool.or_assoc]using h)]
    exact bC (.refl _)
   ·refine⟨i+1,⟨ak,fun x J=>?_⟩,by omega,by rw[cB];rfl⟩
    rw[eB ak]at J;rcases eX.1 J with J|J
    ·exact he x J
    ·rw[dA]at J;subst J;rw[fe];simpa[Bool.or_assoc]using h
  ·have fx:i=l.length:=by omega
   subst fx;have aH:decide ((l.length:Int)<(l.length:Int))=false:=by simp
   refine bW ?_;refine bC (.of (bH I.bool ?_));unfold xE;rw[eQ]at he;have:l.all (fun a=> !Du a)=true:=gT.2 fun a aD=>by rw[he a aD];rfl
   rw[this,hG]
end
section
open Go.Srt
def u5(k:Int)(p:aM):b3:=⟨k,p,[],[],0⟩
def eW:bn:=(nR 0).1
def ca:bn:=(mc eW (u5 2 [47,97])).1
def bT:bn:=(mc ca (u5 7 [47])).1
def dL:bn:=uJ bT [1,1,0,1,1,0,0,0,0]
def kh:cb:=(ng 0).1
def mM:a9:=(hK dL.aq).getD 1 default
def o9:a9:=(hK dL.aq).getD 0 default
def FT:a9:=⟨0,0,1,0,⟨12,[],[],[],0⟩,sj⟩
theorem MI:nR 0=(eW,0)∧ng 0=(kh,0)∧eW.m=kh∧mc eW (u5 2 [47,97])=(ca,0,0)∧mc ca (u5 7 [47])=(bT,1,0):=by decide+kernel
theorem UK:hK dL.aq=[o9,mM]∧mM.mark<o9.mark∧mM.aR=1∧o9.aR=0∧dL.aq.length=2:=by decide+kernel
theorem aHA:fP kh none [{mM with bp:={mM.bp with n:=1}},o9]=false∧fP kh none [o9,mM]=false∧(jb kh [mM,o9]).log.entries.length=1∧fP kh none [FT]=true:=by decide+kernel
theorem M6(k:Int)(p:aM)(h:p.length<=10):jh (u5 k p):=⟨by show p.length<=_;omega,by simp[u5],by simp[u5]⟩
theorem UL:ka kh 0 eW∧ka kh 1 ca∧ka kh 2 bT∧ka kh 11 dL:=by
 have aC:=HZ MI.1;rw[MI.2.2.1]at aC;have h1:=aC.start (by decide) (M6 2 [47,97] (by decide))
 have h2:=h1.start (by decide) (M6 7 [47] (by decide))
 exact⟨aC,h1,h2,ka.run (q:=2) [1,1,0,1,1,0,0,0,0] h2 (by decide)⟩
theorem aHB:iO kh [mM,o9] dL:=by
 obtain⟨l,hl⟩:=UL.2.2.2.al;obtain⟨e,hm, -⟩:=UK;have ae:=hl.perm;rw[e]at ae;have aS:[mM,o9]=l:=Mc l _ ((List.Perm.swap ..).trans ae.symm) (Df l kh none hl.ok).1 (qd.2 ⟨fun b aa=>by rw[dA]at aa;subst aa;unfold wX;exact cg,DF ..⟩)
 rw[aS];exact hl
theorem Gs(H:ab):aY Tryz.prog 8 [] H (.bool true):=by
 refine bh Tryz.func8 ?_;obtain⟨fK,g7,kG,qE,qF⟩:=MI;obtain⟨eT,aV,bm,iE⟩:=UL;have al:=aHB;obtain⟨-,aO,bF,c9,eA⟩:=UK;obtain⟨jA,la,Qa,K6⟩:=aHA;have gF:=eT.ks.ci.iz;rw[kG]at gF;obtain⟨cc, -,gZ⟩:=al.all iE.ks.ci;have k1:=cc mM (by simp)
 have k2:=cc o9 (by simp)
 have aC:=HX 0;have h1:=Eg 0;have h2:=GJ false false false false false false false false false eW (u5 2 [47,97]) (by have:=eT.ks.ci.n;omega)
 have h3:=GJ false false false false false false false false false ca (u5 7 [47]) (by have:=aV.ks.ci.n;omega)
 have h4:=aF5 true bT bm.ks [1,1,0,1,1,0,0,0,0] (by decide)
 have bE:uJ bT [1,1,0,1,1,0,0,0,0]=dL:=rfl;rw[fK]at aC;rw[g7]at h1;rw[qE]at h2;rw[qF]at h3;rw[bE]at h4;have cz:=Il al (by omega) iE.bp
 have eK:=sC false false false false false kh gF [mM,o9] (by decide) cc
 have lz:=Me false [mM,o9] (by decide)
 have lW:=sC false false false false false kh gF [{mM with bp:={mM.bp with n:=1}},o9] (by decide) (fun p ae=>by
  simp only[c7,jB,jD]at ae;rcases ae with rfl|rfl
  ·exact k1
  ·exact k2)
 have E0:=sC false false false false true kh gF [o9,mM] (by decide) (fun p ae=>cc p (by simpa[or_comm]using ae))
 have I0:=Hi false false false false false kh gF [mM,o9] (by decide) cc
 have EY:=R7 true true true [⟨0,5,0,0,sf,c2⟩,⟨0,0,0,4,sf,c2⟩] (by decide)
 have wu:=RK true true false false false false true kh gF [FT] (by decide) (fun p ae=>by rw[dA]at ae;subst ae;exact M6 12 [] (by decide))
 rw[al.ok]at eK;rw[gZ]at lz;rw[jA]at lW;rw[la]at E0;rw[K6]at wu;have Nq:uo [⟨0,5,0,0,sf,c2⟩,⟨0,0,0,4,sf,c2⟩]=false:=by decide
 rw[Nq]at EY;clear bE eT aV bm iE fK g7 kG qE qF al gF cc gZ k1 k2 jA la K6;generalize eW=n5 at *;generalize ca=dq at *;generalize bT=bZ at *;generalize dL=dO at *;generalize jb kh [mM,o9]=ml at *;generalize kh=da at *;generalize mM=p at *;generalize o9=q at *;have kP:((1:Nat):Int)=1:=rfl;simp only[eY,e4,gu,cJ,u5,dn,im,bj,dv,gf,dQ,je,FT,sj,c2,sf,bF,c9]at aC h1 h2 h3 h4 cz eK lz lW E0 I0 EY wu;repeat' first|(refine ad ?_;simp only[go_sem])|refine bx ?_|(refine bD ?_ ?_<;>intro h<;>try exact bB h)|fail
 refine⟨⟨.inl trivial,fun a aD=>by rw[aD];rfl⟩,?_⟩
 iterate 4 first|(refine ad ?_;simp only[go_sem])|refine bx ?_|(refine bD ?_ ?_<;>intro h<;>try exact bB h)|fail
 refine wQ [6] [.agg [.int .i64 1,.int .i64 p.dJ,.int .i64 p.mark,.int .i64 p.end_,.int .i64 p.call.kind,.str p.call.path,.str p.call.to,.str p.call.data,.int .i64 p.call.n,.int .i64 p.bp.err,.str p.bp.data,.sl false (p.bp.names.map I.str),.int .i64 1,.sl false (p.bp.events.map ct)],.agg [.int .i64 0,.int .i64 q.dJ,.int .i64 q.mark,.int .i64 q.end_,.int .i64 q.call.kind,.str q.call.path,.str q.call.to,.str q.call.data,.int .i64 q.call.n,.int .i64 q.bp.err,.str q.bp.data,.sl false (q.bp.names.map I.str),.int .i64 q.bp.n,.sl false (q.bp.events.map ct)]] (v:=1) (lc:=2) (i:=H.length+2) (s:=14) (cs:=_) (by intro t aj;simp only[dA]at aj;subst aj;simp only[go_sem]) (by simp only[go_sem]) (by decide) rfl (by simp[I.cells]) ?_
 simp only[go_sem];repeat' first|(refine ad ?_;simp only[go_sem,Qa,kP])|refine bx ?_|(refine bD ?_ ?_<;>intro h<;>try exact bB h)|fail
 exact bo (.of (bH I.bool (by first|rfl|decide|simp)))
end
section
open Go.Srt
def Iv(l:List a9)(k:Nat):Bool:=(decide ((0:Int)<(k:Int))&&decide ((l.getD k default).mark<=(l.getD (k-1) default).mark))||decide ((l.getD k default).mark<=(l.getD k default).dJ)|| !decide ((l.getD k default).end_=0)&&decide ((l.getD k default).end_<=(l.getD k default).mark)
theorem aCx{l:List a9}(h:∀k,k<l.length->Iv l k=false):uo l=true:=by
 have hs:∀k,(hk:k<l.length)->(∀(_:0<k),(l[k-1]'(by omega)).mark<l[k].mark)∧l[k].dJ<l[k].mark∧(l[k].end_=0∨l[k].mark<l[k].end_):=fun k hk=>by
  have:=h k hk;unfold Iv at this;simp only[eP,c0 hk,c0 (show k-1<l.length by omega),oJ,xl,Bool.and_eq_false_imp,hR,nm,nk,Bool.not_eq_false']at this
  refine⟨fun aC=>?_,?_,?_⟩<;>omega
 refine MH (Tc ?_ fun p ae=>?_)
 ·rw[xm];intro i j hi aw gp;obtain⟨d,rfl⟩:∃d,j=i+1+d:=⟨j-(i+1),by omega⟩
  induction d with
  |zero=>exact(hs (i+1) aw).1 (by omega)
  |succ d ay=>exact Int.lt_trans (ay (by omega) (by omega)) ((hs (i+1+(d+1)) aw).1 (by omega))
 ·obtain⟨i,hi,rfl⟩:=List.mem_iff_getElem.1 ae;exact(hs i hi).2
theorem aCy(b:Bool)(l:List a9)(H:ab):aY Tryz.prog 5 [.sl b (l.map dQ)] H (.bool true):=by
 refine bh Tryz.func5 ?_;have Jd:=Gs;have rn:=Tf b l;cases h9:xE l with
 |false=>
  rw[h9]at rn;repeat' first|(refine ad ?_;simp only[go_sem])|refine af ?_|fail
  exact bC (.refl _)
 |true=>
  rw[h9]at rn;obtain⟨-,hl⟩:=TT h9;repeat' first|(refine ad ?_;simp only[go_sem])|refine af ?_|fail
  refine b5 (ι:=Nat) (fun k=>[(0,.sl b (l.map dQ)),(3,.bool true),(4,.int .i64 k)]) (fun _=>H) (fun k=>k<=l.length∧∀j,j<k->Iv l j=false) (fun k=>l.length-k) 0 ⟨bG _,fun j aw=>by omega⟩ ?_ rfl ?_
  ·simp[go_sem]
  rintro k ⟨hk,aa⟩;by_cases ak:k<l.length
  ·have cG:=dg dQ ak;have sq:=dg dQ (show k-1<l.length by omega)
   have ar:l.getD k default=l[k]:=by rw[eP,c0 ak];rfl
   have au:l.getD (k-1) default=l[k-1]'(by omega):=by rw[eP,c0 (by omega)];rfl
   have VE:Iv l k=((decide ((0:Int)<(k:Int))&&decide ((l.getD k default).mark<=(l.getD (k-1) default).mark))||decide ((l.getD k default).mark<=(l.getD k default).dJ)|| !decide ((l.getD k default).end_=0)&&decide ((l.getD k default).end_<=(l.getD k default).mark)):=rfl
   rw[ar,au]at VE;generalize l[k-1]'(by omega)=q at *
   generalize l[k]=p at *;simp only[dQ]at cG sq;have aH:decide ((k:Int)<(l.length:Int))=true:=b1;have hw:=dW ak (by omega)
   have ca:IntKind.i64.wrap ((k:Int)-1)=(k:Int)-1:=cB;have kU:((k:Int)-1).toNat=k-1:=by omega
   have gI:((0:Int)<(k:Int)->(0:Int)<=(k:Int)-1∧(k:Int)-1<(l.length:Int))=True:=bJ fun h=>⟨by omega,by omega⟩
   repeat' first|(refine ad ?_;simp only[go_sem,cG,sq,aH,ak,ca,kU,gI])|refine bx ?_|(refine bD ?_ ?_<;>intro h<;>try exact bB h)|fail
   ·exact bC (.refl _)
   ·refine⟨k+1,⟨ak,fun j aw=>?_⟩,by omega,bH _ hw⟩
    by_cases e:j=k
    ·subst e;rw[VE];simpa[Bool.or_assoc]using h
    ·exact aa j (by omega)
  ·have g3:k=l.length:=by omega
   have aH:decide ((k:Int)<(l.length:Int))=false:=cg;have oh:=Me b l (by omega)
   rw[aCx fun j aw=>aa j (by omega)]at oh
   repeat' first|(refine ad ?_;simp only[go_sem,aH])|refine af ?_|fail
   exact bC (.refl _)
theorem aCz(aV bm:Bool)(cs:List b3)(l:List a9)(n:Int)(H:ab):aY Tryz.prog 7 [.sl aV (cs.map cJ),.sl bm (l.map dQ),.int .u8 n] H (.bool true):=by
 refine L2 fun _ _ bl=>?_
 have ag:=Ub bl;obtain⟨u,rfl⟩:∃u:Nat,n=(u:Int):=⟨n.toNat,by omega⟩
 refine bh Tryz.func7 ?_;have Jd:=Gs;have rr:=Eg 0;obtain⟨da,uZ⟩:∃da,ng 0=(da,0):=⟨_,rfl⟩;have gF:=TB uZ;rw[uZ]at rr;have gC:=LZ aV cs 20;have iI:=Tf bm l;simp only[dv,gf]at rr;cases h9:ud cs 20 with
 |false=>
  rw[h9]at gC;repeat' first|(refine ad ?_;simp only[go_sem])|refine af ?_|fail
  exact bo (.refl _)
 |true=>
  cases Cw:xE l with
  |false=>
   rw[h9]at gC;rw[Cw]at iI;repeat' first|(refine ad ?_;simp only[go_sem])|refine af ?_|fail
   exact bo (.refl _)
  |true=>
   rw[h9]at gC;rw[Cw]at iI;obtain⟨eM,hl⟩:=TT Cw;obtain⟨hj,tw⟩:=aF0 h9;have Fu:IntKind.i64.wrap ((l.length:Int)+1)=((l.length+1:Nat):Int):=b9 (by omega) (by omega)
   obtain⟨k,hk⟩:∃k,u % (l.length+1)=k:=⟨_,rfl⟩;have gD:k<=l.length:=by have:=Nat.mod_lt u (show 0<l.length+1 by omega);omega
   have OC:(IntKind.i64.wrap (u:Int)).tmod ((l.length+1:Nat):Int)=(k:Int):=by rw[cB,DH (by omega),<-Int.natCast_emod,hk]
   repeat' first|(refine ad ?_;simp only[go_sem])|refine af ?_|fail
   have V4:=aBQ false false false false aV da gF cs (by omega) hj
   have nE:=aFr cs gF;generalize(qY da cs).1=m at *;generalize(qY da cs).2=bp at *;simp only[dv,gf]at V4;iterate 3 first|(refine ad ?_;simp only[go_sem,Fu,OC])|refine af ?_|fail
   refine⟨by omega,?_⟩
   obtain⟨rs,pX⟩:∃rs,(decide (k=0)||(decide (k=l.length)||decide ((l.getD (k-1) default).mark<(l.getD k default).mark)))=rs:=⟨_,rfl⟩;refine vr (ι:=Unit) (fun _=>[(1,.sl bm (l.map dQ)),(7,.bool true),(8,.ref H.length 0 0),(10,.int .i64 k),(11,.bool rs)]) (fun _=>H++[.cells 0 (dv false false false false m).cells]) (fun _=>True) ?_ fun _ _=>?_
   ·by_cases dP:k=0
    ·have d0:decide ((k:Int)=0)=true:=b1;rw[cF dP,Bool.true_or]at pX;repeat' first|(refine ad ?_;simp only[go_sem,d0,dv,gf])|refine af ?_|fail
     exact⟨(),bH _ pX⟩
    ·have d0:decide ((k:Int)=0)=false:=cg;rw[b8 dP,vK]at pX;by_cases ar:k=l.length
     ·have d1:decide ((k:Int)=(l.length:Int))=true:=b1;rw[cF ar,Bool.true_or]at pX;repeat' first|(refine ad ?_;simp only[go_sem,d0,d1,dv,gf])|refine af ?_|fail
      exact⟨(),bH _ pX⟩
     ·have d1:decide ((k:Int)=(l.length:Int))=false:=cg;rw[b8 ar,vK]at pX;have cG:=dg dQ (show k<l.length by omega)
      have sq:=dg dQ (show k-1<l.length by omega)
      have dq:l.getD k default=l[k]'(by omega):=by rw[eP,c0 (by omega)];rfl
      have bZ:l.getD (k-1) default=l[k-1]'(by omega):=by rw[eP,c0 (by omega)];rfl
      rw[dq,bZ]at pX;generalize l[k-1]'(by omega)=q at *
      generalize l[k]'(by omega)=p at *
      simp only[dQ]at cG sq;have ca:IntKind.i64.wrap ((k:Int)-1)=((k-1:Nat):Int):=b9 (by omega) (by omega)
      have gI:((0:Int)<=((k-1:Nat):Int)∧((k-1:Nat):Int)<(l.length:Int))=True:=bJ ⟨by omega,by omega⟩
      have FU:((0:Int)<=(k:Int)∧(k:Int)<(l.length:Int))=True:=bJ ⟨by omega,by omega⟩
      repeat' first|(refine ad ?_;simp only[go_sem,d0,d1,cG,sq,ca,gI,FU,dv,gf])|refine af ?_|fail
      exact⟨(),bH _ pX⟩
   obtain⟨A,cf⟩:∃A,l.take k=A:=⟨_,rfl⟩;obtain⟨B,bK⟩:∃B,l.drop k=B:=⟨_,rfl⟩;have NJ:l=A++B:=by rw[<-cf,<-bK,jf]
   have zR:A.length=k:=by rw[<-cf,e8];omega
   have UY:∀p∈A,jh p.call:=fun p ae=>eM p (by rw[NJ];simp[ae])
   have UZ:∀p∈B,jh p.call:=fun p ae=>eM p (by rw[NJ];simp[ae])
   have Jw:∀{D:List a9} {m:cb},ey m->ey (jb m D):=fun{D}=>by
    induction D with
    |nil=>exact fun h=>h
    |cons p D ay=>exact fun h=>ay (xO h _)
   have h1:=sC false false false false (bm&&decide ((k:Int)=(l.length:Int))) m nE A (by omega) UY
   have h2:=Hi false false false false (bm&&decide ((k:Int)=(l.length:Int))) m nE A (by omega) UY
   have h3:=sC false false false false bm (jb m A) (Jw nE) B (by rw[<-bK,gL];omega) UZ
   have h4:=Hi false false false false bm (jb m A) (Jw nE) B (by rw[<-bK,gL];omega) UZ
   have cz:=sC false false false false bm m nE l (by omega) eM
   have eK:=Hi false false false false bm m nE l (by omega) eM
   have wH:=aAv m l k gD;rw[cf,bK,pX]at wH;have fe:=Sl m A B;rw[<-NJ]at fe;rw[fe]at eK;rw[wH]at cz;have lz:=Sk false false false false false false false false (jb (jb m A) B) (jb (jb m A) B);rw[cF rfl]at lz;generalize jb (jb m A) B=mz at *;generalize jb m A=aK7 at *;generalize fP m none A=fr at *;generalize fP aK7 none B=dZ at *;have t1:(l.map dQ).take k=A.map dQ:=by rw[<-cf,rX]
   have t2:(l.map dQ).drop k=B.map dQ:=by rw[<-bK,y1]
   simp only[dv,gf]at h1 h2 h3 h4 cz eK lz;clear V4 rr;have aQ:(∀x∈l.map dQ,x.cells.length=14)=True:=bJ fun x J=>by(obtain⟨p,_,rfl⟩:=bP.1 J;rfl)
   have aO:((0:Int)<=(k:Int))=True:=bJ (by omega)
   have bF:((k:Int)<=(l.length:Int))=True:=bJ (by omega)
   cases fr;all_goals cases dZ
   all_goals simp only[hG,xj,Bool.and_true,Bool.and_false]at cz
   all_goals repeat' first|(refine ad ?_;simp only[go_sem,dv,gf,t1,t2,gD,aQ,aO,bF])|refine af ?_|fail
   all_goals exact bo (.of (bH I.bool (by first|rfl|simp)))
end
end Go.Proofs.YthafnbmdmfoobaaGreatDoor
