/- What the functions of this seat answer (24 of 40). No condition. -/
import Derived.Test.YthafnbmdmfoobaaGreatDoorWorkAW
set_option linter.unusedSimpArgs false
set_option linter.unusedVariables false
set_option maxRecDepth 100000
set_option maxHeartbeats 16000000
namespace Go.Proofs.YthafnbmdmfoobaaGreatDoor
section
structure ma (es:List (I×I×Nat)) (clock:Nat):Prop where
 fq:(es.map (·.2.2)).Nodup
 lt:∀p∈es,p.2.2<clock
theorem ma.find{es:List (I×I×Nat)}{clock:Nat}(h:ma es clock){p:I×I×Nat}(ae:p∈es):es.find? (fun q=>q.2.2==p.2.2)=some p:=by
 have ag:=h.fq;clear h;induction es<;>grind
theorem ma.U6{es:List (I×I×Nat)}{clock:Nat}(h:ma es clock){p:I×I×Nat}(ae:p∈es)(aLJ:List Nat):Iy clock (aLJ++[p.2.2]) (.map es clock)=⟨.a0 [p.1,p.2.1],True⟩:=by
 simp only[Iy,List.getLast?_append,List.getLast?_singleton,Option.some_or,h.find ae]
theorem ma.filter{es:List (I×I×Nat)}{clock:Nat}(h:ma es clock)(f:I×I×Nat->Bool):ma (es.filter f) clock:=
 ⟨List.Nodup.sublist (List.Sublist.map _ List.filter_sublist) h.fq,fun p ae=>h.lt p (km.1 ae).1⟩
structure r3 (es ps:List (I×I×Nat)):Prop where
 sub:∀p∈ps,p∈es
 fq:(ps.map (·.2.2)).Nodup
theorem r3.step{es ps:List (I×I×Nat)}(h:r3 es ps){p:I×I×Nat}(ae:p∈td es (ps.map (·.2.2))):r3 es (ps++[p])∧p∈es:=by
 obtain⟨h1,h2⟩:=km.1 ae;refine⟨⟨fun q aS=>?_,?_⟩,h1⟩
 ·grind [eX,dA,List,Nat,r3,td]
 grind [km,eX,dA,List,Nat,r3,td,n0,List.nodup_append,dn,im,nk]
theorem XP{α β:Type}(f:α->β){l:List α}(h:(l.map f).Nodup):l.Nodup:=by
 induction l<;>grind
theorem aAj{α:Type}[DecidableEq α]{xs ys:List α}(ag:xs.Nodup)(hs:∀x∈xs,x∈ys):xs.length<=ys.length:=by
 induction xs generalizing ys with
 |nil=>exact bG _
 |cons x xs ay=>
  rw[r1]at ag;have J:=hs x (by simp)
  have h2:∀z∈xs,z∈ys.erase x:=fun z a2=>(List.mem_erase_of_ne (by rintro rfl;exact ag.1 a2)).2 (hs z (lf _ a2))
  have:=ay ag.2 h2;grind
theorem r3.len{es ps:List (I×I×Nat)}(h:r3 es ps):ps.length<=es.length:=by
 have:=aAj (ys:=es.map (·.2.2)) h.fq (fun x J=>by grind [bP,List,Nat,r3])
 simpa using this
theorem r3.perm{es ps:List (I×I×Nat)}{clock:Nat}(h:r3 es ps)(aN:ma es clock)(he:td es (ps.map (·.2.2))=[]):ps.Perm es:=by
 refine(List.perm_ext_iff_of_nodup (XP _ h.fq) (XP _ aN.fq)).2 fun p=>⟨h.sub p,fun ae=>?_⟩
 have:p.2.2∈ps.map (·.2.2):=by
  have:=List.filter_eq_nil_iff.1 he p ae;simpa using this
 obtain⟨q,aS,e⟩:=bP.1 this;have ar:=aN.find (h.sub q aS);have au:=aN.find ae;rw[e]at ar;rw[ar]at au;cases au;exact aS
theorem aEQ{es:List (I×I×Nat)}{clock:Nat}(aN:ma es clock)(i y:Nat)(iP:List I->ab->Prop)(H:ab)(kO:∀cp G,iP cp G->ao G i=.map es clock)(cf:∀cp G L,iP cp G->iP cp (G++L))(NQ:∀cp G it X,iP cp G->H.length<=it->iP cp (ai G it X))
  (tt:∀cp p G it B,p∈es->cp.length<es.length->iP cp G->H.length<=it->ao G it=B->B.live->vL Tryz.prog y [p.1] G (fun v dt=>v=.bool true∧iP (cp++[p.1]) dt∧ao dt it=B)) (aC:iP [] H):
  c5 Tryz.prog 222 [.func (.yield y) [] [],.cptr [.map i]] H (fun _ G=>∃ps:List (I×I×Nat),ps.Perm es∧iP (ps.map (·.1)) G):=by
 refine uM Tryz.func222 ?_;have hm:=kO _ _ aC;refine bW ?_;refine b5 (ι:=List (I×I×Nat)×ab) (fun s=>[(0,.func (.yield y) [] []),(5,.iter H.length)]) (fun s=>s.2) (fun s=>r3 es s.1∧iP (s.1.map (·.1)) s.2∧ao s.2 H.length=.h0 i clock (s.1.map (·.2.2)) clock) (fun s=>es.length-s.1.length)
  ([],H++[.h0 i clock [] clock]) ⟨⟨fun p ae=>(by cases ae),(by simp)⟩,cf _ _ _ aC,rf H _⟩ ?_ rfl ?_
 ·simp[go_sem]
 rintro⟨ps,G⟩ ⟨aT,hC,tF⟩;simp only at aT hC tF ⊢;have aJZ:=kO _ _ hC;have ak:=c8 tF trivial;repeat' first|(refine ad ?_;simp only[go_sem])|refine af ?_|fail
 refine⟨H.length,i,clock,ps.map (·.2.2),clock,es,clock,rfl,tF,aJZ,fun p ae=>⟨aN.lt p ae,aN.lt p ae⟩,fun he=>?_,fun p ae=>?_⟩
 ·simp only[go_sem];repeat' first|(refine ad ?_;simp only[go_sem])|refine af ?_|fail
  exact⟨ps,aT.perm aN he,hC⟩
 ·obtain⟨fh,tK⟩:=aT.step ae;obtain⟨B,bK⟩:∃B,B=bu.h0 i clock (ps.map (·.2.2)++[p.2.2]) clock:=⟨_,rfl⟩;rw[<-bK];have Vt:=NQ _ _ H.length B hC (bk _);have aZ:ao (ai G H.length B) H.length=.h0 i clock (ps.map (·.2.2)++[p.2.2]) clock:=by rw[dT ak,bK]
  have a7:=kO _ _ Vt;have ch:=aN.U6 tK (ps.map (·.2.2));have uY:=fh.len;rw[bt,uv]at uY;have aG:=tt _ p _ H.length B tK (by rw[cP];omega) Vt (bk _) (dT ak B) (by rw[bK];trivial)
  generalize ai G H.length B=cZ at *;simp only[go_sem];refine bW ?_;refine Po aG ?_;rintro v dt ⟨rfl,aIR,aJA⟩;simp only[go_sem];repeat' first|(refine ad ?_;simp only[go_sem])|refine af ?_|fail
  refine⟨(ps++[p],dt),⟨fh,by simpa using aIR,by simp only;rw[aJA,bK];simp⟩,?_,rfl⟩
  have:=fh.len;simp only[bt,cm,ew]at this ⊢;omega
theorem aHJ(i:Nat)(H:ab)(hi:i<H.length):aY Tryz.prog 201 [.map i] H (.func (.func 222) [] [.cptr [.map i]]):=by
 refine bh Tryz.func201 ?_;refine aT ?_;refine⟨_,_,rfl,?_,rfl⟩;refine .func _ _ _ _ _ rfl rfl gY (dV (Hy (bk _) (by simp only[go_sem]) ?_) gY)
 simp only[dA,forall_eq];exact .map _ hi
theorem Uo{H:ab}{A B:bu}{n:Nat}(cf:dp n A)(bK:dp n B):∀(j:Nat) (b:bu),(H++[A,B])[j]?=some b->H[j]?=some b∨dp n b:=fun j b aw=>by
 grind
structure XW (H:ab) (es:List (I×I×Nat)) (clock i:Nat) (fT:bu) (cp:List I) (G:ab):Prop where
 pre:∃M,G=H++M
 eT:ao G H.length=.cells 0 [.osl 1 (H.length+1) (cp.length+1) 0 cp.length cp.length]
 aV:ao G (H.length+1)=.cells (cp.length+1) cp
 bm:ao G (H.length+2)=fT
 m:ao G i=.map es clock
 eO:∀k∈cp,∃s:aM,k=.str s
theorem aBV{es:List (I×I×Nat)}{clock:Nat}(aN:ma es clock)(i:Nat)(mK:∀p∈es,∃s:aM,p.1=.str s)(hl:es.length<=1073741824)(H:ab)(hm:ao H i=.map es clock):
  c5 Tryz.prog 235 [.sl true [],.func (.func 222) [] [.cptr [.map i]]] H
   (fun r H'=>∃ps:List (I×I×Nat),ps.Perm es∧r=.osl 1 (H.length+1) (ps.length+1) 0 ps.length ps.length∧∃A,dp (H.length+2) A∧H'=H++[A,.cells (ps.length+1) (ps.map (·.1))]):=by
 refine pD Tryz.func235 ?_;have Js:=c8 hm trivial;refine aT ?_;refine Dm H.length 0 1 (by simp only[go_sem];rfl) rfl ?_
 simp only[go_sem];refine MQ [(2,.ref H.length 0 0),(6,.func (.func 222) [] [.cptr [.map i]])] (by simp[go_sem]) ?_
 refine PW rfl (aA) fun y fT o0=>?_
 have wz:fT.live:=by rw[o0];trivial
 rw[cr];have On:(H++[bu.cells 0 [.osl 1 (H.length+1) 1 0 0 0],.cells 1 []]).length=H.length+2:=by simp
 rw[On];refine(aEQ aN i y (XW H es clock i fT) _ (fun cp G h=>h.m) (fun cp G L h=>⟨let⟨M,e⟩:=h.pre;⟨M++L,by rw[e,cr]⟩,bQ h.eT trivial L,bQ h.aV trivial L,bQ h.bm wz L,bQ h.m trivial L,h.eO⟩) (fun cp G it X h tF=>?_) (fun cp p G it B ae gD h tF bK aIE=>?_) ?_).mono fun _ H' ⟨ps,ae,h⟩=>?_
 ·have aJz:H.length+3<=it:=by simpa[vJ]using tF
  exact⟨mb h.pre (by omega) X,bM h.eT (by omega) X,bM h.aV (by omega) X,bM h.bm (by omega) X,bM h.m (by omega) X,h.eO⟩
 ·have aJz:H.length+3<=it:=by simpa[vJ]using tF
  obtain⟨s,hs⟩:=mK p ae;rw[hs];refine LA h.bm o0 rfl rfl rfl rfl fun lg fin nB yf gC iI=>?_
  have f3:=bz h.bm wz;have ch:=jI h.bm wz;simp only[xM];refine qn rfl ?_;simp only[go_sem];refine⟨h.bm,?_⟩;obtain⟨dd,ek⟩:∃dd,ai G (H.length+2) lg=dd:=⟨_,rfl⟩;rw[ek];have nD:=c8 h.bm wz;have hlen:G.length=dd.length:=by rw[<-ek];simp[ai]
  have n5:=bM h.eT (i:=H.length+2) (by omega) lg
  have dq:=bM h.aV (i:=H.length+2) (by omega) lg
  have bZ:ao dd (H.length+2)=lg:=by rw[<-ek];exact dT nD lg
  have dO:=bM h.m (i:=H.length+2) (by omega) lg
  have kc:=bM bK (i:=H.length+2) (by omega) lg
  rw[ek]at n5 dq dO kc;have oL:∃M,dd=H++M:=by rw[<-ek];exact mb h.pre (by omega) lg
  have jN:(∀e,e=I.str s->e.cells.length=1)=True:=bJ (fun e he=>by rw[he];rfl)
  have iK:((cp.length+1) * 16<=140737488355328)=True:=bJ (by omega)
  clear o0 nB iI;have s7:=fun Y=>bM n5 (i:=H.length+1) (by omega) Y
  have eM:∀n,dp n (.cells (cp.length+2) (cp++[I.str s])):=fun n x J=>by
   rcases eX.1 J with J|J
   ·obtain⟨t,rfl⟩:=h.eO x J;exact .str _
   ·rw[dA]at J;subst J;exact .str _
  have cH:=c8 dq trivial;have lF:=c8 n5 trivial;have dK:dw [I.osl 1 (H.length+1) (cp.length+1) 0 cp.length cp.length] 0 [.osl 1 (H.length+1) (cp.length+2) 0 (cp.length+1) (cp.length+1)]=[.osl 1 (H.length+1) (cp.length+2) 0 (cp.length+1) (cp.length+1)]:=rfl;refine b0 @eE ?_;refine⟨bM (bM bZ (by omega) _) (by omega) _,_,[],(b2 _).symm,by rw[aX,aX],fun j b aw=>?_,rfl,?_,?_⟩
  ·rcases pI (n:=dd.length) (b:=.cells 0 [.osl 1 (H.length+1) (cp.length+2) 0 (cp.length+1) (cp.length+1)]) (fun x J=>by rw[dA]at J;subst J;exact .osl _ _ _ _ _ _ (by omega)) j b aw with q|q
   ·exact pI (eM _) j b q
   ·exact .inr q
  ·have V0:(cp++[I.str s]).length=cp.length+1:=by simp
   rw[gC];have rz:∀k∈cp++[I.str s],∃s:aM,k=.str s:=fun k hk=>by
    rcases eX.1 hk with hk|hk
    ·exact h.eO k hk
    ·rw[dA]at hk;exact⟨s,hk⟩
   refine⟨mb (mb (mb oL (by omega) _) (by omega) _) (by omega) _,?_,?_,?_,?_,rz⟩
   ·rw[V0];exact bM (dT (by rw[aX];exact lF) _) (by omega) _
   ·rw[V0];exact bM (bM (dT cH _) (by omega) _) (by omega) _
   ·exact dT (by rw[aX,aX,<-hlen];exact nD) _
   ·exact bM (bM (bM dO (by omega) _) (by omega) _) (by omega) _
  ·exact bM (bM (bM kc (by omega) _) (by omega) _) (by omega) _
 ·exact⟨⟨_,rfl⟩,by simp only[go_sem],by simp only[go_sem],by simp only[go_sem],bQ hm trivial _,fun k hk=>by cases hk⟩
 ·refine .inl ⟨.ready,by simp,h.bm.trans o0,fun X=>?_⟩
  have dP:=bM h.eT (i:=H.length+2) (by omega) X
  have ar:=bM h.aV (i:=H.length+2) (by omega) X
  obtain⟨M,au⟩:=mb (H:=H) h.pre (i:=H.length+2) (by omega) X
  obtain⟨cZ,fh⟩:∃cZ,ai H' (H.length+2) X=cZ:=⟨_,rfl⟩;rw[fh]at dP ar au ⊢;simp only[go_sem];repeat' first|(refine ad ?_;simp only[go_sem,dP])|refine af ?_|fail
  rw[au,rf]at dP;rw[au,Dl,cP]at ar
  match M,dP,ar with
  |A::B::L,dP,ar=>
   simp only[DG,DM]at dP ar;subst dP;subst ar;have aQ:dp (H.length+2) (.cells 0 [.osl 1 (H.length+1) ((ps.map (·.1)).length+1) 0 (ps.map (·.1)).length (ps.map (·.1)).length]):=fun x J=>by rw[dA]at J;subst J;exact .osl _ _ _ _ _ _ (by omega)
   have aO:dp (H.length+2) (.cells (ps.length+1) (ps.map (·.1))):=fun x J=>by obtain⟨q,aS,rfl⟩:=bP.1 J;obtain⟨s,e⟩:=mK q (ae.mem_iff.1 aS);rw[e];exact .str _
   exact⟨H++[_,_],L,_,by rw[au,cr];rfl,by simp,by simpa using Uo aQ aO,.cl _ (.osl _ _ _ _ _ _ (by simp)),ps,ae,rfl,_,aQ,rfl⟩
end
section
theorem QW(b:Nat)(m:List (aM×aB)):(fO b m).map (·.2.2)=List.range' b m.length:=by
 induction m generalizing b with
 |nil=>rfl
 |cons p m ay=>rw[fO,dn,ay,cm,List.range'_succ]
theorem Uy(m:List (aM×aB)):ma (fO 0 m) m.length where
 fq:=by rw[QW];exact List.nodup_range'
 lt:=fun p ae=>by
  have:p.2.2∈(fO 0 m).map (·.2.2):=bP.2 ⟨p,ae,rfl⟩;rw[QW]at this;have:=List.mem_range'_1.1 this;omega
theorem US(b:Nat)(m:List (aM×aB)):(fO b m).map (·.1)=(m.map (·.1)).map I.str:=by
 induction m generalizing b with
 |nil=>rfl
 |cons p m ay=>rw[fO,dn,ay];rfl
def KH:I->aM
 |.str s=>s
 |_=>[]
theorem aGT{xs:List I}{cp:List aM}(h:xs.Perm (cp.map I.str)):∃bq:List aM,xs=bq.map I.str∧bq.Perm cp:=by
 refine⟨xs.map KH,?_,?_⟩
 ·rw[rW];have J:∀x∈xs,(I.str∘KH) x=x:=fun x J=>by
   obtain⟨s, -,rfl⟩:=bP.1 (h.mem_iff.1 J);rfl
  rw[List.map_congr_left J,List.map_id']
 ·have:=h.map KH;rw[rW]at this;simpa[Function.comp_def,KH]using this
theorem aGN(l:List aM):(l.map I.str).flatMap I.cells=l.map I.str:=by rw[List.flatMap_map];exact(List.map_eq_flatMap ..).symm
def zb(l:List aM):Prop:=∀s∈l,s.length<=1073741824
def zx(l:List aM)(h:zb l):List dB:=l.attach.map fun s=>⟨s.1,h s.1 s.2⟩
theorem UI(l:List aM)(h:zb l):(zx l h).map (·.1)=l:=by
 unfold zx;rw[rW];show l.attach.map (fun s=>s.1)=l
 exact List.attach_map_subtype_val l
theorem aGO{d d':Array dB}{cp:List aM}(ae:(d.toList.map (·.1)).Perm cp)(h1:Sort.PermIn 0 d.size d d')(h2:Sort.SortedIn (fun a b=>kZ a.1 b.1) 0 d.size d'):d'.toList.map (·.1)=pA cp:=by
 obtain⟨ar, -,bd⟩:=h1;have J:∀(a:Array dB),a.extract 0 a.size=a:=fun a=>by simp
 rw[J d]at bd;rw[<-ar,J d']at bd;refine Zl ?_ ((bd.map _).trans ae);rw[List.pairwise_map,xm];intro i j hi aw gp;have cv:i<d'.size:=by simpa using hi
 have mi:j<d'.size:=by simpa using aw
 have:=h2 i j (bG _) gp (by omega)
 simp only[getElem!_pos d' i cv,getElem!_pos d' j mi]at this;simpa using this
theorem aAk{es:List (I×I×Nat)}{clock:Nat}(aN:ma es clock)(i:Nat)(mK:∀p∈es,∃s:aM,p.1=.str s)(hl:es.length<=1073741824)(H:ab)(hm:ao H i=.map es clock):
  c5 Tryz.prog 220 [.func (.func 222) [] [.cptr [.map i]]] H
   (fun r H'=>∃ps:List (I×I×Nat),ps.Perm es∧r=.osl 1 (H.length+1) (ps.length+1) 0 ps.length ps.length∧∃A,dp (H.length+2) A∧H'=H++[A,.cells (ps.length+1) (ps.map (·.1))]):=by
 refine pD Tryz.func220 ?_;refine aT ?_;refine c6 (aBV aN i mK hl H hm) (aA) ?_;rintro r H' ⟨ps,ae,rfl,A,cf,rfl⟩;simp only[go_sem];refine aT ?_;have aO:dp (H.length+2) (.cells (ps.length+1) (ps.map (·.1))):=fun x J=>by obtain⟨q,aS,rfl⟩:=bP.1 J;obtain⟨s,e⟩:=mK q (ae.mem_iff.1 aS);rw[e];exact .str _
 exact⟨H++[A,.cells (ps.length+1) (ps.map (·.1))],[],_,(b2 _).symm,by simp,by simpa using Uo cf aO,.cl _ (.osl _ _ _ _ _ _ (by simp)),ps,ae,rfl,A,cf,rfl⟩
theorem aHu:Sort.SWO (fun a b:dB=>kZ a.1 b.1) where
 irrefl:=fun x=>Ds.irrefl x.1
 trans:=fun x y z=>Ds.trans x.1 y.1 z.1
 ntrans:=fun x y z=>Ds.ntrans x.1 y.1 z.1
theorem aGP{es:List (I×I×Nat)}{clock:Nat}(aN:ma es clock)(i:Nat){cp:List aM}(hk:es.map (·.1)=cp.map I.str)(hs:zb cp)(hl:es.length<=1073741824)(H:ab)(hm:ao H i=.map es clock):
  aY Tryz.prog 200 [.func (.func 222) [] [.cptr [.map i]],.func (.func 202) [] []] H (.sl false ((pA cp).map I.str)):=by
 refine bh Tryz.func200 ?_;have mK:∀p∈es,∃s:aM,p.1=.str s:=fun p ae=>by
  have:p.1∈cp.map I.str:=hk▸bP.2 ⟨p,ae,rfl⟩;obtain⟨s, -,e⟩:=bP.1 this;exact⟨s,e.symm⟩
 refine aT ?_;refine c6 (aAk aN i mK hl H hm) (aA) ?_;rintro r H' ⟨ps,ae,rfl,A,cf,rfl⟩
 -- the keys, in whatever order
 obtain⟨bq,jN,iK⟩:∃bq:List aM,ps.map (·.1)=bq.map I.str∧bq.Perm cp:=by
  have h1:(ps.map (·.1)).Perm (cp.map I.str):=hk▸ae.map _;exact aGT h1
 have CH:zb bq:=fun s h=>hs s (iK.mem_iff.1 h)
 have hlen:ps.length=(zx bq CH).toArray.size:=by
  have:=bH List.length jN;simp only[cP]at this;simp[zx,this]
 have hd:ps.map (·.1)=dx (zx bq CH).toArray:=by
  unfold dx;rw[jN];conv=>lhs;rw[<-UI bq CH]
  simp
 rw[hd];have iU:=ae.length_eq;simp only[go_sem];refine aT ?_;refine c6 (aHs aHu (fun x y=>aHt x.1 y.1) aGs hlen (by omega) _ (show ao (H++[A,.cells (ps.length+1) (dx (zx bq CH).toArray)]) (H.length+1)=_ from Dl H _ 1)) (aA) ?_
 rintro r H' ⟨d',s1,s2,rfl,rfl⟩;have hY:((zx bq CH).toArray.toList.map (·.1)).Perm cp:=by rw[List.toList_toArray,UI bq CH];exact iK
 have oc:d'.toList.map (·.1)=pA cp:=aGO hY (by rw[<-hlen];exact s1) (by rw[<-hlen];exact s2)
 simp only[go_sem];refine aT ?_;have ar:dx d'=(pA cp).map I.str:=by rw[<-oc,rW];rfl
 have au:ps.length=((pA cp).map I.str).length:=by
  rw[<-ar,fF,hlen];exact s1.1.symm
 rw[ar];exact p3 (cs:=(pA cp).map I.str) (es:=(pA cp).map I.str) (rest:=[]) (by omega) (by simp only[go_sem]) (by rw[b2,aGN]) au.symm (fun e he=>by obtain⟨x,_,rfl⟩:=bP.1 he;rfl) (fun e he=>by obtain⟨x,_,rfl⟩:=bP.1 he;exact .str _) rfl
theorem Xm{es:List (I×I×Nat)}{clock:Nat}(aN:ma es clock)(i:Nat){cp:List aM}(hk:es.map (·.1)=cp.map I.str)(hs:zb cp)(hl:es.length<=1073741824)(H:ab)(hm:ao H i=.map es clock):
  aY Tryz.prog 178 [.map i] H (.sl false ((pA cp).map I.str)):=by
 refine bh Tryz.func178 ?_;refine aT ?_;refine ea (aHJ i H (c8 hm trivial)) (aA) ?_;simp only[go_sem];refine ea (aGP aN i hk hs hl H hm) (aA) ?_;simp only[go_sem];refine aT ?_;exact zk (.sl _ _ fun e he=>by obtain⟨x,_,rfl⟩:=bP.1 he;exact .str _) (.refl _)
theorem Ix(l:List aB)(dir:Int):(fu l dir).length<=l.length:=by
 have h:∀(k:List aB) (m:List (aM×aB)),(k.foldl (l4 dir) m).length<=m.length+k.length:=by
  intro k;induction k with
  |nil=>exact fun m=>bk _
  |cons x k ay=>
   intro m;have h1:=ay (l4 dir m x);have hs:∀s (n:aB) (m:List (aM×aB)),(hO s n m).length<=m.length+1:=fun s n m=>by
    induction m with
    |nil=>simp[hO]
    |cons q m ay=>obtain⟨k,y⟩:=q;unfold hO;split<;>simp;exact ay
   have h2:(l4 dir m x).length<=m.length+1:=by
    unfold l4 q0;split
    ·split
     ·exact hs _ _ _
     ·split
      ·omega
      ·exact hs _ _ _
    ·omega
   rw[nZ,cm];omega
 simpa[fu]using h l []
def r6(l:List aB):Prop:=∀n∈l,n.name.length<=1073741824
theorem Pr{l:List aB}(h:r6 l)(dir:Int):zb ((fu l dir).map (·.1)):=fun s hs=>by
 obtain⟨p,ae,rfl⟩:=bP.1 hs;rw[<-(DT l dir).2 p ae];exact h _ (LB l dir p ae).1
theorem aHv(b:Bool)(l:List aB)(dir:Int)(hl:l.length<=1073741824)(ag:r6 l)(H:ab):aY Tryz.prog 133 [.sl b (l.map aW),.int .i64 dir] H (.sl false ((BM l dir).map I.str)):=by
 refine bh Tryz.func133 ?_;unfold BM;cases hs:cC l with
 |false=>
  repeat' first|((first|refine du (kY _ _) ?_|refine ad ?_);simp only[go_sem,hs])|refine af ?_|fail
  exact bC (.sl _ _)
 |true=>
  rw[aF rfl];repeat' first|((first|refine du (kY _ _) ?_|refine ad ?_);simp only[go_sem,hs])|refine af ?_|fail
  refine c6 (MY b l dir hl H) (aA) ?_;rintro v H' ⟨rfl,rfl⟩;simp only[go_sem];refine ea (Xm (Uy _) H.length (US 0 _) (Pr ag dir) (by rw[UR];have:=Ix l dir;omega) _ (rf H _)) (aA) ?_
  simp only[go_sem];refine aT ?_;exact done (.sl _ _ fun e he=>by obtain⟨x,_,rfl⟩:=bP.1 he;exact .str _) (.refl _)
end
section
structure Bo (xs:List Int) (es:List (I×I×Nat)):Prop where
 p6:iy (.int .i64) es
 at_:∀x:Int,(eL (.int .i64 x) es).map (·.2)=if x∈xs then some (.bool true)else none
 cl:∀n,∀p∈es,cX n p.1∧cX n p.2.1
theorem aLh:Bo [] []:=⟨fun p ae=>(by cases ae),fun x=>rfl,fun n p ae=>(by cases ae)⟩
theorem aLo(y:Int)(clock:Nat):∀(es:List (I×I×Nat)),iy (.int .i64) es->iy (.int .i64) (hB (.int .i64 y) (.bool true) es clock)∧
  (∀x:Int,(eL (.int .i64 x) (hB (.int .i64 y) (.bool true) es clock)).map (·.2)=if x=y then some (.bool true)else(eL (.int .i64 x) es).map (·.2)):=by
 intro es;induction es with
 |nil=>
  intro _;refine⟨fun p ae=>?_,fun x=>?_⟩
  ·simp only[hB,eL,gK,dA]at ae;subst ae;rfl
  grind [hB,eL,gK,dA,iA]
 |cons q es ay=>
  obtain⟨k,w,b⟩:=q;intro hk;have j1:jE (.int .i64) k=true:=hk (k,w,b) (by simp)
  have hX:iy (.int .i64) es:=fun p ae=>hk p (lf _ ae)
  cases k<;>simp only[jE,ht]at j1;rename_i O0 z;rw[hR]at j1;subst j1;by_cases l0:y=z
  ·subst l0;have e:hB (.int .i64 y) (.bool true) ((I.int .i64 y,w,b)::es) clock=(.int .i64 y,.bool true,b)::es:=by simp[hB,eL,iA]
   rw[e];refine⟨fun p ae=>?_,fun x=>?_⟩
   ·rcases c7.1 ae with rfl|ae
    ·rfl
    ·exact hX p ae
   ·simp only[eL,iA];by_cases h:x=y<;>simp[h]
  ·have aP:iA (.int .i64 y) (.int .i64 z)=false:=by simp[iA,l0]
   rw[Go.Proofs.YthafnbmdmfoobaaGreatDoor.Ll aP];obtain⟨i1,i2⟩:=ay hX;refine⟨fun p ae=>?_,fun x=>?_⟩
   ·rcases c7.1 ae with rfl|ae
    ·rfl
    ·exact i1 p ae
   ·have:=i2 x;simp only[eL,iA];by_cases h:x=z
    ·subst h;have cV:¬x=y:=fun e=>l0 e.symm
     simp[cV]
    ·simp only[b8 h,qi,Option.map_map];by_cases cV:x=y
     ·rw[aF cV]at this ⊢;cases tG:eL (.int .i64 x) (hB (.int .i64 y) (.bool true) es clock)with
      |none=>rw[tG]at this;cases this
      |some v=>rw[tG]at this;simpa using this
     ·rw[az cV]at this ⊢;cases tG:eL (.int .i64 x) (hB (.int .i64 y) (.bool true) es clock)with
      |none=>rw[tG]at this;cases eb:eL (.int .i64 x) es with
       |none=>rfl
       |some v=>rw[eb]at this;cases this
      |some v=>rw[tG]at this;cases eb:eL (.int .i64 x) es with
       |none=>rw[eb]at this;cases this
       |some u=>rw[eb]at this;simpa using this
theorem UD{n:Nat}{x v:I}(J:cX n x)(aL:cX n v){es:List (I×I×Nat)}(h:∀p∈es,cX n p.1∧cX n p.2.1)(clock:Nat):∀p∈hB x v es clock,cX n p.1∧cX n p.2.1:=by
 grind [hB,Hm]
theorem W4{xs:List Int}{es:List (I×I×Nat)}(h:Bo xs es)(y:Int)(clock:Nat):Bo (xs++[y]) (hB (.int .i64 y) (.bool true) es clock):=by
 obtain⟨i1,i2⟩:=aLo y clock es h.p6;refine⟨i1,fun x=>?_,fun n=>UD (.int _ _) (.bool _) (h.cl n) clock⟩
 rw[i2,h.at_];grind
structure uE (es:List (I×I×Nat)):Prop where
 p6:iy .string es
 fq:(es.map (·.1)).Nodup
theorem uE.filter{es:List (I×I×Nat)}(h:uE es)(f:I×I×Nat->Bool):uE (es.filter f):=
 ⟨fun p ae=>h.p6 p (km.1 ae).1,List.Nodup.sublist (List.Sublist.map _ List.filter_sublist) h.fq⟩
theorem uE.at_{es:List (I×I×Nat)}(h:uE es){p:I×I×Nat}(ae:p∈es){s:List UInt8}(hs:p.1=.str s):∃j,eL (.str s) es=some (j,p.2.1)∧es[j]?=some p:=by
 obtain⟨hk,ag⟩:=h;induction es with
 |nil=>cases ae
 |cons q es ay=>
  obtain⟨k,w,b⟩:=q;rw[dn,r1]at ag;have j1:jE .string k=true:=hk (k,w,b) (by simp)
  cases k<;>simp only[jE,ht]at j1;rename_i t;rcases c7.1 ae with rfl|FE
  ·simp only at hs;cases hs;simp[eL,iA]
  ·have aP:¬s=t:=fun e=>ag.1 (by subst e;rw[<-hs];exact bP.2 ⟨p,FE,rfl⟩)
   obtain⟨j,h1,h2⟩:=ay FE (fun p ae=>hk p (lf _ ae)) ag.2
   exact⟨j+1,by simp[eL,iA,aP,h1],by simpa using h2⟩
theorem erase_filter{α β:Type}[BEq β][LawfulBEq β](f:α->β):∀(l:List α) (j:Nat) (p:α),(l.map f).Nodup->l[j]?=some p->l.eraseIdx j=l.filter (fun q=> !(f q==f p)):=by
 intro l;induction l with
 |nil=>intro j p _ h;cases h
 |cons x l ay=>
  intro j p ag h;rw[dn,r1]at ag;cases j with
  |zero=>
   cases h;rw[List.eraseIdx_cons_zero,mX,az (by simp)]
   symm
   rw[List.filter_eq_self];grind
  |succ j=>
   rw[vz]at h;rw[List.eraseIdx_cons_succ,mX,aF,ay j p ag.2 h];simp only[nk,beq_eq_false_iff_ne];intro e;exact ag.1 (e▸bP.2 ⟨p,df h,rfl⟩)
theorem aH8{es:List (I×I×Nat)}{clock:Nat}(h:uE es)(aN:ma es clock){p:I×I×Nat}(ae:p∈es){s:List UInt8}(hs:p.1=.str s):delKey (.str s) es=es.filter fun q=> !(q.2.2==p.2.2):=by
 obtain⟨j,h1,h2⟩:=h.at_ ae hs;unfold delKey;rw[h1];exact erase_filter (fun q:I×I×Nat=>q.2.2) es j p aN.fq h2
def mQ(es:List (I×I×Nat))(o:I×I×Nat->Bool)(ps:List (I×I×Nat)):List (I×I×Nat):=es.filter fun q=> !((ps.map (·.2.2)).contains q.2.2&&o q)
theorem aKW(es:List (I×I×Nat))(o:I×I×Nat->Bool):mQ es o []=es:=by
 unfold mQ;rw[List.filter_eq_self];intro q _;simp
theorem Xr{es:List (I×I×Nat)}{clock:Nat}(aN:ma es clock){p q:I×I×Nat}(ae:p∈es)(aS:q∈es)(e:q.2.2=p.2.2):q=p:=by
 have ar:=aN.find ae;have au:=aN.find aS;rw[e,ar]at au;cases au;rfl
theorem aKY{es:List (I×I×Nat)}{clock:Nat}(aN:ma es clock){o:I×I×Nat->Bool}{ps:List (I×I×Nat)}{p:I×I×Nat}(ae:p∈es)(h:o p=true):mQ es o (ps++[p])=(mQ es o ps).filter fun q=> !(q.2.2==p.2.2):=by
 unfold mQ;rw[List.filter_filter];refine List.filter_congr fun q aS=>?_
 simp only[n0,dn,im];by_cases e:q.2.2=p.2.2
 ·have:=Xr aN ae aS e;subst this;simp[h]
 ·grind
theorem aKX{es:List (I×I×Nat)}{clock:Nat}(aN:ma es clock){o:I×I×Nat->Bool}{ps:List (I×I×Nat)}{p:I×I×Nat}(ae:p∈es)(h:o p=false):mQ es o (ps++[p])=mQ es o ps:=by
 unfold mQ;refine List.filter_congr fun q aS=>?_
 simp only[n0,dn,im];by_cases e:q.2.2=p.2.2
 ·have:=Xr aN ae aS e;subst this;simp[h]
 ·grind
theorem WU{es:List (I×I×Nat)}{o:I×I×Nat->Bool}{ps:List (I×I×Nat)}:td (mQ es o ps) (ps.map (·.2.2))=td es (ps.map (·.2.2)):=by
 unfold td mQ;rw[List.filter_filter];refine List.filter_congr fun q aS=>?_
 cases(ps.map (·.2.2)).contains q.2.2<;>simp
theorem aKV{es ps:List (I×I×Nat)}{o:I×I×Nat->Bool}(h:ps.Perm es):mQ es o ps=es.filter fun q=> !o q:=by
 unfold mQ;refine List.filter_congr fun q aS=>?_
 have:(ps.map (·.2.2)).contains q.2.2=true:=by
  rw[A6];exact bP.2 ⟨q,h.mem_iff.2 aS,rfl⟩
 rw[this,hG]
def mu(xs:List Int)(q:I×I×Nat):Bool:=match q.2.1 with
 |.agg (.int _ i::_)=>xs.contains i
 |_=>false
theorem aGU{m:List (aM×aB)}(h:(m.map (·.1)).Nodup):uE (fO 0 m) where
 p6:=L4 0 m
 fq:=by
  rw[US];induction m with
  |nil=>exact List.nodup_nil
  |cons p m ay=>
   rw[dn,r1]at h;rw[dn,dn,r1];refine⟨fun J=>?_,ay h.2⟩
   obtain⟨s,hs,e⟩:=bP.1 J;cases e;exact h.1 hs
theorem aLa(xs:List Int):∀(b:Nat) (m:List (aM×aB)),((fO b m).filter fun q=> !mu xs q).map (·.1)=((m.filter fun p=> !xs.contains p.2.id).map (·.1)).map I.str:=by
 intro b m;induction m generalizing b with
 |nil=>rfl
 |cons p m ay=>
  have e:mu xs (I.str p.1,aW p.2,b)=xs.contains p.2.id:=rfl;rw[fO,mX,mX,e];split
  ·rw[dn,ay];rfl
  ·exact ay _
theorem aK9{b:Nat}{m:List (aM×aB)}{q:I×I×Nat}(h:q∈fO b m):∃p∈m,q.1=.str p.1∧q.2.1=aW p.2:=by
 induction m generalizing b with
 |nil=>cases h
 |cons p m ay=>
  rcases c7.1 h with rfl|h
  ·exact⟨p,by simp,rfl,rfl⟩
  ·obtain⟨r,ax,e⟩:=ay h;exact⟨r,lf _ ax,e⟩
theorem aK4{b:Nat}{m:List (aM×aB)}{p:aM×aB}(h:p∈m):∃k,(I.str p.1,aW p.2,k)∈fO b m:=by
 induction m generalizing b with
 |nil=>cases h
 |cons x m ay=>
  rcases c7.1 h with rfl|h
  ·exact⟨b,by simp[fO]⟩
  ·obtain⟨k,hk⟩:=ay (b:=b+1) h;exact⟨k,lf _ hk⟩
end
end Go.Proofs.YthafnbmdmfoobaaGreatDoor
