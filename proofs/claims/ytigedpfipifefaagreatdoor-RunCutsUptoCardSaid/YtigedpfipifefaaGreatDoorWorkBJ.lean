/- What the functions of this seat answer (36 of 40). No condition. -/
import Derived.Test.YtigedpfipifefaaGreatDoorWorkAP
import Derived.Test.YtigedpfipifefaaGreatDoorWorkBI
set_option linter.unusedSimpArgs false
set_option linter.unusedVariables false
set_option maxRecDepth 100000
set_option maxHeartbeats 16000000
namespace Go.Proofs.YtigedpfipifefaaGreatDoor
section
structure MpOk (es:List (AV×AV×Nat)) (clock:Nat):Prop where
 nd:(es.map (·.2.2)).Nodup
 lt:∀p∈es,p.2.2<clock
theorem MpOk.find{es:List (AV×AV×Nat)}{clock:Nat}(h:MpOk es clock){p:AV×AV×Nat}(hp:p∈es):es.find? (fun q=>q.2.2==p.2.2)=some p:=by
 have hn:=h.nd;clear h;induction es<;>grind
theorem MpOk.ent{es:List (AV×AV×Nat)}{clock:Nat}(h:MpOk es clock){p:AV×AV×Nat}(hp:p∈es)(sb:List Nat):aLt clock (sb++[p.2.2]) (.map es clock)=⟨.tup [p.1,p.2.1],True⟩:=by
 simp only[aLt,List.getLast?_append,List.getLast?_singleton,Option.some_or,h.find hp]
theorem MpOk.filter{es:List (AV×AV×Nat)}{clock:Nat}(h:MpOk es clock)(f:AV×AV×Nat→Bool):MpOk (es.filter f) clock:=
 ⟨List.Nodup.sublist (List.Sublist.map _ List.filter_sublist) h.nd,fun p hp=>h.lt p (List.mem_filter.1 hp).1⟩
structure Gone (es ps:List (AV×AV×Nat)):Prop where
 sub:∀p∈ps,p∈es
 nd:(ps.map (·.2.2)).Nodup
theorem Gone.step{es ps:List (AV×AV×Nat)}(h:Gone es ps){p:AV×AV×Nat}(hp:p∈zC es (ps.map (·.2.2))):Gone es (ps++[p])∧p∈es:=by
 obtain⟨h1,h2⟩:=List.mem_filter.1 hp;refine⟨⟨fun q hq=>?_,?_⟩,h1⟩
 ·grind [zAM,zAq,List,Nat,Gone,zC]
 grind [zAM,zAq,List,Nat,Gone,zC,List.nodup_append,zAV,zBr,Bool.not_eq_true']
theorem nP{α β:Type}(f:α→β){l:List α}(h:(l.map f).Nodup):l.Nodup:=by
 induction l<;>grind
theorem aCl{α:Type}[DecidableEq α]{xs ys:List α}(hn:xs.Nodup)(hs:∀x∈xs,x∈ys):xs.length≤ys.length:=by
 induction xs generalizing ys with
 |nil=>exact zAv _
 |cons x xs ih=>
  rw[zBK]at hn;have hx:=hs x (by simp)
  have h2:∀z∈xs,z∈ys.erase x:=fun z hz=>(List.mem_erase_of_ne (by rintro rfl;exact hn.1 hz)).2 (hs z (zBO _ hz))
  have:=ih hn.2 h2;grind
theorem Gone.len{es ps:List (AV×AV×Nat)}(h:Gone es ps):ps.length≤es.length:=by
 have:=aCl (ys:=es.map (·.2.2)) h.nd (fun x hx=>by grind [zAi,List,Nat,Gone])
 simpa using this
theorem Gone.perm{es ps:List (AV×AV×Nat)}{clock:Nat}(h:Gone es ps)(ho:MpOk es clock)(he:zC es (ps.map (·.2.2))=[]):ps.Perm es:=by
 refine(List.perm_ext_iff_of_nodup (nP _ h.nd) (nP _ ho.nd)).2 fun p=>⟨h.sub p,fun hp=>?_⟩
 have:p.2.2∈ps.map (·.2.2):=by
  have:=List.filter_eq_nil_iff.1 he p hp;simpa using this
 obtain⟨q,hq,e⟩:=zAi.1 this;have e1:=ho.find (h.sub q hq);have e2:=ho.find hp;rw[e]at e1;rw[e1]at e2;cases e2;exact hq
theorem aGI{es:List (AV×AV×Nat)}{clock:Nat}(ho:MpOk es clock)(i y:Nat)(J:List AV→AHeap→Prop)(H:AHeap)(hM:∀ks G,J ks G→hget G i=.map es clock)(hA:∀ks G L,J ks G→J ks (G++L))(hI:∀ks G it X,J ks G→H.length≤it→J ks (aA G it X))
  (hY:∀ks p G it B,p∈es→ks.length<es.length→J ks G→H.length≤it→hget G it=B→B.live→AYield Tryz.prog y [p.1] G (fun v G'=>v=.bool true∧J (ks++[p.1]) G'∧hget G' it=B)) (h0:J [] H):
  ACalls Tryz.prog 153 [.func (.yield y) [] [],.cptr [.map i]] H (fun _ G=>∃ps:List (AV×AV×Nat),ps.Perm es∧J (ps.map (·.1)) G):=by
 refine aW Tryz.func153 ?_;have hm:=hM _ _ h0;refine hH ?_;refine aH (ι:=List (AV×AV×Nat)×AHeap) (fun s=>[(0,.func (.yield y) [] []),(5,.iter H.length)]) (fun s=>s.2) (fun s=>Gone es s.1∧J (s.1.map (·.1)) s.2∧hget s.2 H.length=.miter i clock (s.1.map (·.2.2)) clock) (fun s=>es.length-s.1.length)
  ([],H++[.miter i clock [] clock]) ⟨⟨fun p hp=>(by cases hp),(by simp)⟩,hA _ _ _ h0,fU H _⟩ ?_ rfl ?_
 ·simp[go_sem]
 rintro⟨ps,G⟩ ⟨hG,hJ,hit⟩;simp only at hG hJ hit ⊢;have hmG:=hM _ _ hJ;have hlt:=bC hit trivial;repeat' first|(refine gS ?_;simp only[go_sem])|refine hU ?_|fail
 refine⟨H.length,i,clock,ps.map (·.2.2),clock,es,clock,rfl,hit,hmG,fun p hp=>⟨ho.lt p hp,ho.lt p hp⟩,fun he=>?_,fun p hp=>?_⟩
 ·simp only[go_sem];repeat' first|(refine gS ?_;simp only[go_sem])|refine hU ?_|fail
  exact⟨ps,hG.perm ho he,hJ⟩
 ·obtain⟨hG2,hpe⟩:=hG.step hp;obtain⟨B,hB⟩:∃B,B=ABlk.miter i clock (ps.map (·.2.2)++[p.2.2]) clock:=⟨_,rfl⟩;rw[←hB];have hJ2:=hI _ _ H.length B hJ (zAb _);have g1:hget (aA G H.length B) H.length=.miter i clock (ps.map (·.2.2)++[p.2.2]) clock:=by rw[bX hlt,hB]
  have g2:=hM _ _ hJ2;have g3:=ho.ent hpe (ps.map (·.2.2));have hlk:=hG2.len;rw[zAa,zBw]at hlk;have hy:=hY _ p _ H.length B hpe (by rw[zAs];omega) hJ2 (zAb _) (bX hlt B) (by rw[hB];trivial)
  generalize aA G H.length B=G2 at *;simp only[go_sem];refine hH ?_;refine kR hy ?_;rintro v G' ⟨rfl,hJ3,hit3⟩;simp only[go_sem];repeat' first|(refine gS ?_;simp only[go_sem])|refine hU ?_|fail
  refine⟨(ps++[p],G'),⟨hG2,by simpa using hJ3,by simp only;rw[hit3,hB];simp⟩,?_,rfl⟩
  have:=hG2.len;simp only[zAa,zAt,List.length_nil]at this ⊢;omega
theorem aOV(i:Nat)(H:AHeap)(hi:i<H.length):bJ Tryz.prog 102 [.map i] H (.func (.func 153) [] [.cptr [.map i]]):=by
 refine fO Tryz.func102 ?_;refine hG ?_;refine⟨_,_,rfl,?_,rfl⟩;refine .func _ _ _ _ _ rfl rfl iO (fI (pP (zAb _) (by simp only[go_sem]) ?_) iO)
 simp only[zAq,forall_eq];exact .map _ hi
theorem aHP{H:AHeap}{A B:ABlk}{n:Nat}(hA:ClB n A)(hB:ClB n B):∀(j:Nat) (b:ABlk),(H++[A,B])[j]?=some b→H[j]?=some b∨ClB n b:=fun j b hj=>by
 grind
structure JA (H:AHeap) (es:List (AV×AV×Nat)) (clock i:Nat) (LB:ABlk) (ks:List AV) (G:AHeap):Prop where
 pre:∃M,G=H++M
 b0:hget G H.length=.cells 0 [.osl 1 (H.length+1) (ks.length+1) 0 ks.length ks.length]
 b1:hget G (H.length+1)=.cells (ks.length+1) ks
 b2:hget G (H.length+2)=LB
 m:hget G i=.map es clock
 tx:∀k∈ks,∃s:Txt,k=.str s
theorem aEp{es:List (AV×AV×Nat)}{clock:Nat}(ho:MpOk es clock)(i:Nat)(hks:∀p∈es,∃s:Txt,p.1=.str s)(hl:es.length≤1073741824)(H:AHeap)(hm:hget H i=.map es clock):
  ACalls Tryz.prog 181 [.sl true [],.func (.func 153) [] [.cptr [.map i]]] H
   (fun r H'=>∃ps:List (AV×AV×Nat),ps.Perm es∧r=.osl 1 (H.length+1) (ps.length+1) 0 ps.length ps.length∧∃A,ClB (H.length+2) A∧H'=H++[A,.cells (ps.length+1) (ps.map (·.1))]):=by
 refine aQ Tryz.func181 ?_;have hil:=bC hm trivial;refine hG ?_;refine jG H.length 0 1 (by simp only[go_sem];rfl) rfl ?_
 simp only[go_sem];refine zQ [(2,.ref H.length 0 0),(6,.func (.func 153) [] [.cptr [.map i]])] (by simp[go_sem]) ?_
 refine jV rfl (cO) fun y LB hLB=>?_
 have hLv:LB.live:=by rw[hLB];trivial
 rw[zAe];have hlen2:(H++[ABlk.cells 0 [.osl 1 (H.length+1) 1 0 0 0],.cells 1 []]).length=H.length+2:=by simp
 rw[hlen2];refine(aGI ho i y (JA H es clock i LB) _ (fun ks G h=>h.m) (fun ks G L h=>⟨let⟨M,e⟩:=h.pre;⟨M++L,by rw[e,zAe]⟩,aK h.b0 trivial L,aK h.b1 trivial L,aK h.b2 hLv L,aK h.m trivial L,h.tx⟩) (fun ks G it X h hit=>?_) (fun ks p G it B hp hkl h hit hB hBl=>?_) ?_).mono fun _ H' ⟨ps,hp,h⟩=>?_
 ·have hit':H.length+3≤it:=by simpa[Nat.add_assoc]using hit
  exact⟨lF h.pre (by omega) X,aR h.b0 (by omega) X,aR h.b1 (by omega) X,aR h.b2 (by omega) X,aR h.m (by omega) X,h.tx⟩
 ·have hit':H.length+3≤it:=by simpa[Nat.add_assoc]using hit
  obtain⟨s,hs⟩:=hks p hp;rw[hs];refine oF h.b2 hLB rfl rfl rfl rfl fun BB fin hBB hlB hf1 hf2=>?_
  have f3:=cY h.b2 hLv;have g3:=pQ h.b2 hLv;simp only[oY];refine gV rfl ?_;simp only[go_sem];refine⟨h.b2,?_⟩;obtain⟨G1,hG1⟩:∃G1,aA G (H.length+2) BB=G1:=⟨_,rfl⟩;rw[hG1];have hl3:=bC h.b2 hLv;have hlen:G.length=G1.length:=by rw[←hG1];simp[aA]
  have a0:=aR h.b0 (i:=H.length+2) (by omega) BB
  have a1:=aR h.b1 (i:=H.length+2) (by omega) BB
  have a2:hget G1 (H.length+2)=BB:=by rw[←hG1];exact bX hl3 BB
  have a3:=aR h.m (i:=H.length+2) (by omega) BB
  have a4:=aR hB (i:=H.length+2) (by omega) BB
  rw[hG1]at a0 a1 a3 a4;have a5:∃M,G1=H++M:=by rw[←hG1];exact lF h.pre (by omega) BB
  have hq1:(∀e,e=AV.str s→e.cells.length=1)=True:=zBf (fun e he=>by rw[he];rfl)
  have hq2:((ks.length+1) * 16≤140737488355328)=True:=zBf (by omega)
  clear hLB hBB hf2;have a6:=fun Y=>aR a0 (i:=H.length+1) (by omega) Y
  have hcl:∀n,ClB n (.cells (ks.length+2) (ks++[AV.str s])):=fun n x hx=>by
   rcases zAM.1 hx with hx|hx
   ·obtain⟨t,rfl⟩:=h.tx x hx;exact .str _
   ·rw[zAq]at hx;subst hx;exact .str _
  have hl1:=bC a1 trivial;have hl0:=bC a0 trivial;have hsp:bI [AV.osl 1 (H.length+1) (ks.length+1) 0 ks.length ks.length] 0 [.osl 1 (H.length+1) (ks.length+2) 0 (ks.length+1) (ks.length+1)]=[.osl 1 (H.length+1) (ks.length+2) 0 (ks.length+1) (ks.length+1)]:=rfl;refine hK @zAo ?_;refine⟨aR (aR a2 (by omega) _) (by omega) _,_,[],(zAj _).symm,by rw[bF,bF],fun j b hj=>?_,rfl,?_,?_⟩
  ·rcases iA (n:=G1.length) (b:=.cells 0 [.osl 1 (H.length+1) (ks.length+2) 0 (ks.length+1) (ks.length+1)]) (fun x hx=>by rw[zAq]at hx;subst hx;exact .osl _ _ _ _ _ _ (by omega)) j b hj with q|q
   ·exact iA (hcl _) j b q
   ·exact .inr q
  ·have hkl2:(ks++[AV.str s]).length=ks.length+1:=by simp
   rw[hf1];have htx:∀k∈ks++[AV.str s],∃s:Txt,k=.str s:=fun k hk=>by
    rcases zAM.1 hk with hk|hk
    ·exact h.tx k hk
    ·rw[zAq]at hk;exact⟨s,hk⟩
   refine⟨lF (lF (lF a5 (by omega) _) (by omega) _) (by omega) _,?_,?_,?_,?_,htx⟩
   ·rw[hkl2];exact aR (bX (by rw[bF];exact hl0) _) (by omega) _
   ·rw[hkl2];exact aR (aR (bX hl1 _) (by omega) _) (by omega) _
   ·exact bX (by rw[bF,bF,←hlen];exact hl3) _
   ·exact aR (aR (aR a3 (by omega) _) (by omega) _) (by omega) _
  ·exact aR (aR (aR a4 (by omega) _) (by omega) _) (by omega) _
 ·exact⟨⟨_,rfl⟩,by simp only[go_sem],by simp only[go_sem],by simp only[go_sem],aK hm trivial _,fun k hk=>by cases hk⟩
 ·refine .inl ⟨.ready,by simp,h.b2.trans hLB,fun X=>?_⟩
  have e0:=aR h.b0 (i:=H.length+2) (by omega) X
  have e1:=aR h.b1 (i:=H.length+2) (by omega) X
  obtain⟨M,e2⟩:=lF (H:=H) h.pre (i:=H.length+2) (by omega) X
  obtain⟨G2,hG2⟩:∃G2,aA H' (H.length+2) X=G2:=⟨_,rfl⟩;rw[hG2]at e0 e1 e2 ⊢;simp only[go_sem];repeat' first|(refine gS ?_;simp only[go_sem,e0])|refine hU ?_|fail
  rw[e2,fU]at e0;rw[e2,jF,zAs]at e1
  match M,e0,e1 with
  |A::B::L,e0,e1=>
   simp only[List.getD_cons_zero,List.getD_cons_succ]at e0 e1;subst e0;subst e1;have q1:ClB (H.length+2) (.cells 0 [.osl 1 (H.length+1) ((ps.map (·.1)).length+1) 0 (ps.map (·.1)).length (ps.map (·.1)).length]):=fun x hx=>by rw[zAq]at hx;subst hx;exact .osl _ _ _ _ _ _ (by omega)
   have q2:ClB (H.length+2) (.cells (ps.length+1) (ps.map (·.1))):=fun x hx=>by obtain⟨q,hq,rfl⟩:=zAi.1 hx;obtain⟨s,e⟩:=hks q (hp.mem_iff.1 hq);rw[e];exact .str _
   exact⟨H++[_,_],L,_,by rw[e2,zAe];rfl,by simp,by simpa using aHP q1 q2,.cl _ (.osl _ _ _ _ _ _ (by simp)),ps,hp,rfl,_,q1,rfl⟩
end
section
theorem sC(b:Nat)(m:List (Txt×Nd)):(kF b m).map (·.2.2)=List.range' b m.length:=by
 induction m generalizing b with
 |nil=>rfl
 |cons p m ih=>rw[kF,zAV,ih,zAt,zBI]
theorem aJT(m:List (Txt×Nd)):MpOk (kF 0 m) m.length where
 nd:=by rw[sC];exact List.nodup_range'
 lt:=fun p hp=>by
  have:p.2.2∈(kF 0 m).map (·.2.2):=zAi.2 ⟨p,hp,rfl⟩;rw[sC]at this;have:=List.mem_range'_1.1 this;omega
theorem aNH(b:Nat)(m:List (Txt×Nd)):(kF b m).map (·.1)=(m.map (·.1)).map AV.str:=by
 induction m generalizing b with
 |nil=>rfl
 |cons p m ih=>rw[kF,zAV,ih];rfl
def unS:AV→Txt
 |.str s=>s
 |_=>[]
theorem aMZ{xs:List AV}{ks:List Txt}(h:xs.Perm (ks.map AV.str)):∃qs:List Txt,xs=qs.map AV.str∧qs.Perm ks:=by
 refine⟨xs.map unS,?_,?_⟩
 ·rw[zBC];have hx:∀x∈xs,(AV.str∘unS) x=x:=fun x hx=>by
   obtain⟨s, -,rfl⟩:=zAi.1 (h.mem_iff.1 hx);rfl
  rw[List.map_congr_left hx,List.map_id']
 ·have:=h.map unS;rw[zBC]at this;simpa[Function.comp_def,unS]using this
theorem aLi(l:List Txt):(l.map AV.str).flatMap AV.cells=l.map AV.str:=by rw[zBR];exact(List.map_eq_flatMap ..).symm
def SmL(l:List Txt):Prop:=∀s∈l,s.length≤1073741824
def aM0(l:List Txt)(h:SmL l):List dV:=l.attach.map fun s=>⟨s.1,h s.1 s.2⟩
theorem aM1(l:List Txt)(h:SmL l):(aM0 l h).map (·.1)=l:=by
 unfold aM0;rw[zBC];show l.attach.map (fun s=>s.1)=l
 exact List.attach_map_subtype_val l
theorem aLj{d d':Array dV}{ks:List Txt}(hp:(d.toList.map (·.1)).Perm ks)(h1:Sort.PermIn 0 d.size d d')(h2:Sort.SortedIn (fun a b=>pV a.1 b.1) 0 d.size d'):d'.toList.map (·.1)=pC ks:=by
 obtain⟨e1, -,e3⟩:=h1;have hx:∀(a:Array dV),a.extract 0 a.size=a:=fun a=>by simp
 rw[hx d]at e3;rw[←e1,hx d']at e3;refine aAb ?_ ((e3.map _).trans hp);rw[List.pairwise_map,zBz];intro i j hi hj hij;have hi':i<d'.size:=by simpa using hi
 have hj':j<d'.size:=by simpa using hj
 have:=h2 i j (zAv _) hij (by omega)
 simp only[getElem!_pos d' i hi',getElem!_pos d' j hj']at this;simpa using this
theorem aCm{es:List (AV×AV×Nat)}{clock:Nat}(ho:MpOk es clock)(i:Nat)(hks:∀p∈es,∃s:Txt,p.1=.str s)(hl:es.length≤1073741824)(H:AHeap)(hm:hget H i=.map es clock):
  ACalls Tryz.prog 151 [.func (.func 153) [] [.cptr [.map i]]] H
   (fun r H'=>∃ps:List (AV×AV×Nat),ps.Perm es∧r=.osl 1 (H.length+1) (ps.length+1) 0 ps.length ps.length∧∃A,ClB (H.length+2) A∧H'=H++[A,.cells (ps.length+1) (ps.map (·.1))]):=by
 refine aQ Tryz.func151 ?_;refine hG ?_;refine aG (aEp ho i hks hl H hm) (cO) ?_;rintro r H' ⟨ps,hp,rfl,A,hA,rfl⟩;simp only[go_sem];refine hG ?_;have q2:ClB (H.length+2) (.cells (ps.length+1) (ps.map (·.1))):=fun x hx=>by obtain⟨q,hq,rfl⟩:=zAi.1 hx;obtain⟨s,e⟩:=hks q (hp.mem_iff.1 hq);rw[e];exact .str _
 exact⟨H++[A,.cells (ps.length+1) (ps.map (·.1))],[],_,(zAj _).symm,by simp,by simpa using aHP hA q2,.cl _ (.osl _ _ _ _ _ _ (by simp)),ps,hp,rfl,A,hA,rfl⟩
theorem aNJ:Sort.SWO (fun a b:dV=>pV a.1 b.1) where
 irrefl:=fun x=>lH.irrefl x.1
 trans:=fun x y z=>lH.trans x.1 y.1 z.1
 ntrans:=fun x y z=>lH.ntrans x.1 y.1 z.1
theorem aLk{es:List (AV×AV×Nat)}{clock:Nat}(ho:MpOk es clock)(i:Nat){ks:List Txt}(hk:es.map (·.1)=ks.map AV.str)(hs:SmL ks)(hl:es.length≤1073741824)(H:AHeap)(hm:hget H i=.map es clock):
  bJ Tryz.prog 101 [.func (.func 153) [] [.cptr [.map i]],.func (.func 103) [] []] H (.sl false ((pC ks).map AV.str)):=by
 refine fO Tryz.func101 ?_;have hks:∀p∈es,∃s:Txt,p.1=.str s:=fun p hp=>by
  have:p.1∈ks.map AV.str:=hk▸zAi.2 ⟨p,hp,rfl⟩;obtain⟨s, -,e⟩:=zAi.1 this;exact⟨s,e.symm⟩
 refine hG ?_;refine aG (aCm ho i hks hl H hm) (cO) ?_;rintro r H' ⟨ps,hp,rfl,A,hA,rfl⟩
 -- the keys, in whatever order
 obtain⟨qs,hq1,hq2⟩:∃qs:List Txt,ps.map (·.1)=qs.map AV.str∧qs.Perm ks:=by
  have h1:(ps.map (·.1)).Perm (ks.map AV.str):=hk▸hp.map _;exact aMZ h1
 have hsq:SmL qs:=fun s h=>hs s (hq2.mem_iff.1 h)
 have hlen:ps.length=(aM0 qs hsq).toArray.size:=by
  have:=zA5 List.length hq1;simp only[zAs]at this;simp[aM0,this]
 have hd:ps.map (·.1)=dC (aM0 qs hsq).toArray:=by
  unfold dC;rw[hq1];conv=>lhs;rw[←aM1 qs hsq]
  simp
 rw[hd];have hpl:=hp.length_eq;simp only[go_sem];refine hG ?_;refine aG (aNF aNJ (fun x y=>aNG x.1 y.1) aJS hlen (by omega) _ (show hget (H++[A,.cells (ps.length+1) (dC (aM0 qs hsq).toArray)]) (H.length+1)=_ from jF H _ 1)) (cO) ?_
 rintro r H' ⟨d',s1,s2,rfl,rfl⟩;have hpp:((aM0 qs hsq).toArray.toList.map (·.1)).Perm ks:=by rw[List.toList_toArray,aM1 qs hsq];exact hq2
 have hfin:d'.toList.map (·.1)=pC ks:=aLj hpp (by rw[←hlen];exact s1) (by rw[←hlen];exact s2)
 simp only[go_sem];refine hG ?_;have e1:dC d'=(pC ks).map AV.str:=by rw[←hfin,zBC];rfl
 have e2:ps.length=((pC ks).map AV.str).length:=by
  rw[←e1,aU,hlen];exact s1.1.symm
 rw[e1];exact jT (cs:=(pC ks).map AV.str) (es:=(pC ks).map AV.str) (rest:=[]) (by omega) (by simp only[go_sem]) (by rw[zAj,aLi]) e2.symm (fun e he=>by obtain⟨x,_,rfl⟩:=zAi.1 he;rfl) (fun e he=>by obtain⟨x,_,rfl⟩:=zAi.1 he;exact .str _) rfl
theorem rising_c{es:List (AV×AV×Nat)}{clock:Nat}(ho:MpOk es clock)(i:Nat){ks:List Txt}(hk:es.map (·.1)=ks.map AV.str)(hs:SmL ks)(hl:es.length≤1073741824)(H:AHeap)(hm:hget H i=.map es clock):
  bJ Tryz.prog 67 [.map i] H (.sl false ((pC ks).map AV.str)):=by
 refine fO Tryz.func67 ?_;refine hG ?_;refine cS (aOV i H (bC hm trivial)) (cO) ?_;simp only[go_sem];refine cS (aLk ho i hk hs hl H hm) (cO) ?_;simp only[go_sem];refine hG ?_;exact aHo (.sl _ _ fun e he=>by obtain⟨x,_,rfl⟩:=zAi.1 he;exact .str _) (.refl _)
theorem seenN_len(l:List Nd)(dir:Int):(dO l dir).length≤l.length:=by
 have h:∀(k:List Nd) (m:List (Txt×Nd)),(k.foldl (rG dir) m).length≤m.length+k.length:=by
  intro k;induction k with
  |nil=>exact fun m=>zAb _
  |cons x k ih=>
   intro m;have h1:=ih (rG dir m x);have hs:∀s (n:Nd) (m:List (Txt×Nd)),(iI s n m).length≤m.length+1:=fun s n m=>by
    induction m with
    |nil=>simp[iI]
    |cons q m ih=>obtain⟨k,y⟩:=q;unfold iI;split<;>simp;exact ih
   have h2:(rG dir m x).length≤m.length+1:=by
    unfold rG wZ;split
    ·split
     ·exact hs _ _ _
     ·split
      ·omega
      ·exact hs _ _ _
    ·omega
   rw[List.foldl_cons,zAt];omega
 simpa[dO]using h l []
def SmN(l:List Nd):Prop:=∀n∈l,n.name.length≤1073741824
theorem smN_keys{l:List Nd}(h:SmN l)(dir:Int):SmL ((dO l dir).map (·.1)):=fun s hs=>by
 obtain⟨p,hp,rfl⟩:=zAi.1 hs;rw[←(oI l dir).2 p hp];exact h _ (aBL l dir p hp).1
end
section
structure OutOk (xs:List Int) (es:List (AV×AV×Nat)):Prop where
 ki:keysIn (.int .i64) es
 at_:∀x:Int,(keyAt (.int .i64 x) es).map (·.2)=if x∈xs then some (.bool true)else none
 cl:∀n,∀p∈es,Cl n p.1∧Cl n p.2.1
theorem out_nil:OutOk [] []:=⟨fun p hp=>(by cases hp),fun x=>rfl,fun n p hp=>(by cases hp)⟩
theorem putKey_at(y:Int)(clock:Nat):∀(es:List (AV×AV×Nat)),keysIn (.int .i64) es→keysIn (.int .i64) (nS (.int .i64 y) (.bool true) es clock)∧
  (∀x:Int,(keyAt (.int .i64 x) (nS (.int .i64 y) (.bool true) es clock)).map (·.2)=if x=y then some (.bool true)else(keyAt (.int .i64 x) es).map (·.2)):=by
 intro es;induction es with
 |nil=>
  intro _;refine⟨fun p hp=>?_,fun x=>?_⟩
  ·simp only[nS,keyAt,zAJ,zAq]at hp;subst hp;rfl
  grind [nS,keyAt,zAJ,zAq,oT]
 |cons q es ih=>
  obtain⟨k,w,b⟩:=q;intro hk;have hk0:aLr (.int .i64) k=true:=hk (k,w,b) (by simp)
  have hk1:keysIn (.int .i64) es:=fun p hp=>hk p (zBO _ hp)
  cases k<;>simp only[aLr,zAr]at hk0;rename_i kk z;rw[zAz]at hk0;subst hk0;by_cases hyz:y=z
  ·subst hyz;have e:nS (.int .i64 y) (.bool true) ((AV.int .i64 y,w,b)::es) clock=(.int .i64 y,.bool true,b)::es:=by simp[nS,keyAt,oT]
   rw[e];refine⟨fun p hp=>?_,fun x=>?_⟩
   ·rcases zAC.1 hp with rfl|hp
    ·rfl
    ·exact hk1 p hp
   ·simp only[keyAt,oT];by_cases h:x=y<;>simp[h]
  ·have hne:oT (.int .i64 y) (.int .i64 z)=false:=by simp[oT,hyz]
   rw[Go.Proofs.YtigedpfipifefaaGreatDoor.xB hne];obtain⟨i1,i2⟩:=ih hk1;refine⟨fun p hp=>?_,fun x=>?_⟩
   ·rcases zAC.1 hp with rfl|hp
    ·rfl
    ·exact i1 p hp
   ·have:=i2 x;simp only[keyAt,oT];by_cases h:x=z
    ·subst h;have hxy:¬x=y:=fun e=>hyz e.symm
     simp[hxy]
    ·simp only[zAh h,zCc,Option.map_map];by_cases hxy:x=y
     ·rw[zAp hxy]at this ⊢;cases hkk:keyAt (.int .i64 x) (nS (.int .i64 y) (.bool true) es clock)with
      |none=>rw[hkk]at this;cases this
      |some v=>rw[hkk]at this;simpa using this
     ·rw[zAk hxy]at this ⊢;cases hkk:keyAt (.int .i64 x) (nS (.int .i64 y) (.bool true) es clock)with
      |none=>rw[hkk]at this;cases hk2:keyAt (.int .i64 x) es with
       |none=>rfl
       |some v=>rw[hk2]at this;cases this
      |some v=>rw[hkk]at this;cases hk2:keyAt (.int .i64 x) es with
       |none=>rw[hk2]at this;cases this
       |some u=>rw[hk2]at this;simpa using this
theorem putKey_cl{n:Nat}{x v:AV}(hx:Cl n x)(hv:Cl n v){es:List (AV×AV×Nat)}(h:∀p∈es,Cl n p.1∧Cl n p.2.1)(clock:Nat):∀p∈nS x v es clock,Cl n p.1∧Cl n p.2.1:=by
 grind [nS,List.mem_iff_getElem?]
theorem out_put{xs:List Int}{es:List (AV×AV×Nat)}(h:OutOk xs es)(y:Int)(clock:Nat):OutOk (xs++[y]) (nS (.int .i64 y) (.bool true) es clock):=by
 obtain⟨i1,i2⟩:=putKey_at y clock es h.ki;refine⟨i1,fun x=>?_,fun n=>putKey_cl (.int _ _) (.bool _) (h.cl n) clock⟩
 rw[i2,h.at_];grind
structure StrK (es:List (AV×AV×Nat)):Prop where
 ki:keysIn .string es
 nd:(es.map (·.1)).Nodup
theorem StrK.filter{es:List (AV×AV×Nat)}(h:StrK es)(f:AV×AV×Nat→Bool):StrK (es.filter f):=
 ⟨fun p hp=>h.ki p (List.mem_filter.1 hp).1,List.Nodup.sublist (List.Sublist.map _ List.filter_sublist) h.nd⟩
theorem StrK.at_{es:List (AV×AV×Nat)}(h:StrK es){p:AV×AV×Nat}(hp:p∈es){s:List UInt8}(hs:p.1=.str s):∃j,keyAt (.str s) es=some (j,p.2.1)∧es[j]?=some p:=by
 obtain⟨hk,hn⟩:=h;induction es with
 |nil=>cases hp
 |cons q es ih=>
  obtain⟨k,w,b⟩:=q;rw[zAV,zBK]at hn;have hk0:aLr .string k=true:=hk (k,w,b) (by simp)
  cases k<;>simp only[aLr,zAr]at hk0;rename_i t;rcases zAC.1 hp with rfl|hp'
  ·simp only at hs;cases hs;simp[keyAt,oT]
  ·have hne:¬s=t:=fun e=>hn.1 (by subst e;rw[←hs];exact zAi.2 ⟨p,hp',rfl⟩)
   obtain⟨j,h1,h2⟩:=ih hp' (fun p hp=>hk p (zBO _ hp)) hn.2
   exact⟨j+1,by simp[keyAt,oT,hne,h1],by simpa using h2⟩
theorem erase_filter{α β:Type}[BEq β][LawfulBEq β](f:α→β):∀(l:List α) (j:Nat) (p:α),(l.map f).Nodup→l[j]?=some p→l.eraseIdx j=l.filter (fun q=> !(f q==f p)):=by
 intro l;induction l with
 |nil=>intro j p _ h;cases h
 |cons x l ih=>
  intro j p hn h;rw[zAV,zBK]at hn;cases j with
  |zero=>
   cases h;rw[List.eraseIdx_cons_zero,List.filter_cons,zAk (by simp)]
   symm
   rw[List.filter_eq_self];grind
  |succ j=>
   rw[zA1]at h;rw[List.eraseIdx_cons_succ,List.filter_cons,zAp,ih j p hn.2 h];simp only[Bool.not_eq_true',beq_eq_false_iff_ne];intro e;exact hn.1 (e▸zAi.2 ⟨p,zAA h,rfl⟩)
theorem del_filter{es:List (AV×AV×Nat)}{clock:Nat}(h:StrK es)(ho:MpOk es clock){p:AV×AV×Nat}(hp:p∈es){s:List UInt8}(hs:p.1=.str s):delKey (.str s) es=es.filter fun q=> !(q.2.2==p.2.2):=by
 obtain⟨j,h1,h2⟩:=h.at_ hp hs;unfold delKey;rw[h1];exact erase_filter (fun q:AV×AV×Nat=>q.2.2) es j p ho.nd h2
def lessE(es:List (AV×AV×Nat))(o:AV×AV×Nat→Bool)(ps:List (AV×AV×Nat)):List (AV×AV×Nat):=es.filter fun q=> !((ps.map (·.2.2)).contains q.2.2&&o q)
theorem lessE_nil(es:List (AV×AV×Nat))(o:AV×AV×Nat→Bool):lessE es o []=es:=by
 unfold lessE;rw[List.filter_eq_self];intro q _;simp
theorem same_birth{es:List (AV×AV×Nat)}{clock:Nat}(ho:MpOk es clock){p q:AV×AV×Nat}(hp:p∈es)(hq:q∈es)(e:q.2.2=p.2.2):q=p:=by
 have e1:=ho.find hp;have e2:=ho.find hq;rw[e,e1]at e2;cases e2;rfl
theorem lessE_yes{es:List (AV×AV×Nat)}{clock:Nat}(ho:MpOk es clock){o:AV×AV×Nat→Bool}{ps:List (AV×AV×Nat)}{p:AV×AV×Nat}(hp:p∈es)(h:o p=true):lessE es o (ps++[p])=(lessE es o ps).filter fun q=> !(q.2.2==p.2.2):=by
 unfold lessE;rw[List.filter_filter];refine List.filter_congr fun q hq=>?_
 simp only[List.map_append,zAV,zBr];by_cases e:q.2.2=p.2.2
 ·have:=same_birth ho hp hq e;subst this;simp[h]
 ·grind
theorem lessE_no{es:List (AV×AV×Nat)}{clock:Nat}(ho:MpOk es clock){o:AV×AV×Nat→Bool}{ps:List (AV×AV×Nat)}{p:AV×AV×Nat}(hp:p∈es)(h:o p=false):lessE es o (ps++[p])=lessE es o ps:=by
 unfold lessE;refine List.filter_congr fun q hq=>?_
 simp only[List.map_append,zAV,zBr];by_cases e:q.2.2=p.2.2
 ·have:=same_birth ho hp hq e;subst this;simp[h]
 ·grind
theorem lessE_left{es:List (AV×AV×Nat)}{o:AV×AV×Nat→Bool}{ps:List (AV×AV×Nat)}:zC (lessE es o ps) (ps.map (·.2.2))=zC es (ps.map (·.2.2)):=by
 unfold zC lessE;rw[List.filter_filter];refine List.filter_congr fun q hq=>?_
 cases(ps.map (·.2.2)).contains q.2.2<;>simp
theorem lessE_end{es ps:List (AV×AV×Nat)}{o:AV×AV×Nat→Bool}(h:ps.Perm es):lessE es o ps=es.filter fun q=> !o q:=by
 unfold lessE;refine List.filter_congr fun q hq=>?_
 have:(ps.map (·.2.2)).contains q.2.2=true:=by
  rw[zBt];exact zAi.2 ⟨q,h.mem_iff.2 hq,rfl⟩
 rw[this,zAE]
def outQ(xs:List Int)(q:AV×AV×Nat):Bool:=match q.2.1 with
 |.agg (.int _ i::_)=>xs.contains i
 |_=>false
theorem aM2{m:List (Txt×Nd)}(h:(m.map (·.1)).Nodup):StrK (kF 0 m) where
 ki:=aDA 0 m
 nd:=by
  rw[aNH];induction m with
  |nil=>exact List.nodup_nil
  |cons p m ih=>
   rw[zAV,zBK]at h;rw[zAV,zAV,zBK];refine⟨fun hx=>?_,ih h.2⟩
   obtain⟨s,hs,e⟩:=zAi.1 hx;cases e;exact h.1 hs
theorem nmE_out(xs:List Int):∀(b:Nat) (m:List (Txt×Nd)),((kF b m).filter fun q=> !outQ xs q).map (·.1)=((m.filter fun p=> !xs.contains p.2.id).map (·.1)).map AV.str:=by
 intro b m;induction m generalizing b with
 |nil=>rfl
 |cons p m ih=>
  have e:outQ xs (AV.str p.1,ndA p.2,b)=xs.contains p.2.id:=rfl;rw[kF,List.filter_cons,List.filter_cons,e];split
  ·rw[zAV,ih];rfl
  ·exact ih _
theorem nmE_mem{b:Nat}{m:List (Txt×Nd)}{q:AV×AV×Nat}(h:q∈kF b m):∃p∈m,q.1=.str p.1∧q.2.1=ndA p.2:=by
 induction m generalizing b with
 |nil=>cases h
 |cons p m ih=>
  rcases zAC.1 h with rfl|h
  ·exact⟨p,by simp,rfl,rfl⟩
  ·obtain⟨r,hr,e⟩:=ih h;exact⟨r,zBO _ hr,e⟩
theorem mem_nmE{b:Nat}{m:List (Txt×Nd)}{p:Txt×Nd}(h:p∈m):∃k,(AV.str p.1,ndA p.2,k)∈kF b m:=by
 induction m generalizing b with
 |nil=>cases h
 |cons x m ih=>
  rcases zAC.1 h with rfl|h
  ·exact⟨b,by simp[kF]⟩
  ·obtain⟨k,hk⟩:=ih (b:=b+1) h;exact⟨k,zBO _ hk⟩
end
end Go.Proofs.YtigedpfipifefaaGreatDoor
