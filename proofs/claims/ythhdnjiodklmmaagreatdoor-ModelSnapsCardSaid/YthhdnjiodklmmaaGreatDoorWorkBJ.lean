/- The texts 36 of 51 beneath the rows of this seat (joined by program): the abstract machine, and what the functions answer. No condition. -/
import Derived.Test.YthhdnjiodklmmaaGreatDoorWorkAE
import Derived.Test.YthhdnjiodklmmaaGreatDoorWorkAO
import Derived.Test.YthhdnjiodklmmaaGreatDoorWorkAU
import Derived.Test.YthhdnjiodklmmaaGreatDoorWorkBI
set_option linter.unusedSimpArgs false
set_option linter.unusedVariables false
set_option linter.unusedSectionVars false
/- The keys of a map, gone through in whatever order, and put in order. No condition but how many and how long they are. -/
namespace Go.Aw
structure MpOk (es:List (AV×AV×Nat)) (clock:Nat):Prop where
 nd:(es.map (·.2.2)).Nodup
 lt:∀p∈es,p.2.2<clock
theorem MpOk.find{es:List (AV×AV×Nat)}{clock:Nat}(h:MpOk es clock){p:AV×AV×Nat}(hp:p∈es):es.find? (fun q=>q.2.2==p.2.2)=some p:=by
 have hn:=h.nd
 clear h
 induction es with
 |nil=>cases hp
 |cons q es ih=>
  rw[List.map_cons,List.nodup_cons]at hn
  rw[List.find?_cons]
  rcases List.mem_cons.1 hp with rfl|hp'
  ·rw[beq_self_eq_true]
  ·have:(q.2.2==p.2.2)=false:=by
    rw[beq_eq_false_iff_ne]
    intro e
    exact hn.1 (e▸List.mem_map.2 ⟨p,hp',rfl⟩)
   rw[this]
   exact ih hp' hn.2
theorem MpOk.ent{es:List (AV×AV×Nat)}{clock:Nat}(h:MpOk es clock){p:AV×AV×Nat}(hp:p∈es)(sb:List Nat):aTf clock (sb++[p.2.2]) (.map es clock)=⟨.tup [p.1,p.2.1],True⟩:=by
 simp only[aTf,List.getLast?_append,List.getLast?_singleton,Option.some_or,h.find hp]
theorem MpOk.filter{es:List (AV×AV×Nat)}{clock:Nat}(h:MpOk es clock)(f:AV×AV×Nat→Bool):MpOk (es.filter f) clock:=
 ⟨List.Nodup.sublist (List.Sublist.map _ List.filter_sublist) h.nd,fun p hp=>h.lt p (List.mem_filter.1 hp).1⟩
structure Gone (es ps:List (AV×AV×Nat)):Prop where
 sub:∀p∈ps,p∈es
 nd:(ps.map (·.2.2)).Nodup
theorem Gone.step{es ps:List (AV×AV×Nat)}(h:Gone es ps){p:AV×AV×Nat}(hp:p∈aCa es (ps.map (·.2.2))):Gone es (ps++[p])∧p∈es:=by
 obtain⟨h1,h2⟩:=List.mem_filter.1 hp
 refine⟨⟨fun q hq=>?_,?_⟩,h1⟩
 ·rcases List.mem_append.1 hq with hq|hq
  ·exact h.sub q hq
  ·rw[List.mem_singleton]at hq;subst hq;exact h1
 ·rw[List.map_append,List.nodup_append]
  refine⟨h.nd,by simp,fun a ha b hb e=>?_⟩
  simp only[List.map_cons,List.map_nil,List.mem_singleton]at hb
  subst hb;subst e
  simp only[Bool.not_eq_true',List.contains_eq_mem,decide_eq_false_iff_not]at h2
  exact h2 ha
theorem vI{α β:Type}(f:α→β){l:List α}(h:(l.map f).Nodup):l.Nodup:=by
 induction l with
 |nil=>exact List.nodup_nil
 |cons x l ih=>
  rw[List.map_cons,List.nodup_cons]at h
  rw[List.nodup_cons]
  exact⟨fun hx=>h.1 (List.mem_map.2 ⟨x,hx,rfl⟩),ih h.2⟩
theorem aHK{α:Type}[DecidableEq α]{xs ys:List α}(hn:xs.Nodup)(hs:∀x∈xs,x∈ys):xs.length≤ys.length:=by
 induction xs generalizing ys with
 |nil=>exact Nat.zero_le _
 |cons x xs ih=>
  rw[List.nodup_cons]at hn
  have hx:=hs x (by simp)
  have h2:∀z∈xs,z∈ys.erase x:=fun z hz=>(List.mem_erase_of_ne (by rintro rfl;exact hn.1 hz)).2 (hs z (List.mem_cons_of_mem _ hz))
  have:=ih hn.2 h2
  rw[List.length_erase_of_mem hx]at this
  have:=List.length_pos_of_mem hx
  rw[List.length_cons]
  omega
theorem Gone.len{es ps:List (AV×AV×Nat)}(h:Gone es ps):ps.length≤es.length:=by
 have:=aHK (ys:=es.map (·.2.2)) h.nd (fun x hx=>by obtain⟨p,hp,rfl⟩:=List.mem_map.1 hx;exact List.mem_map.2 ⟨p,h.sub p hp,rfl⟩)
 simpa using this
theorem Gone.perm{es ps:List (AV×AV×Nat)}{clock:Nat}(h:Gone es ps)(ho:MpOk es clock)(he:aCa es (ps.map (·.2.2))=[]):ps.Perm es:=by
 refine(List.perm_ext_iff_of_nodup (vI _ h.nd) (vI _ ho.nd)).2 fun p=>⟨h.sub p,fun hp=>?_⟩
 have:p.2.2∈ps.map (·.2.2):=by
  have:=List.filter_eq_nil_iff.1 he p hp
  simpa using this
 obtain⟨q,hq,e⟩:=List.mem_map.1 this
 have e1:=ho.find (h.sub q hq)
 have e2:=ho.find hp
 rw[e]at e1
 rw[e1]at e2
 cases e2
 exact hq
end Go.Aw
namespace Go.Proofs.YthhdnjiodklmmaaGreatDoor
open Go Go.Aw Go.Gw
set_option linter.unusedSimpArgs false
set_option linter.unusedVariables false
set_option maxRecDepth 20000
set_option maxHeartbeats 4000000
theorem aMO{es:List (AV×AV×Nat)}{clock:Nat}(ho:MpOk es clock)(i y:Nat)(J:List AV→AHeap→Prop)(H:AHeap)(hM:∀ks G,J ks G→hget G i=.map es clock)(hA:∀ks G L,J ks G→J ks (G++L))(hI:∀ks G it X,J ks G→H.length≤it→J ks (aD G it X))
  (hY:∀ks p G it B,p∈es→ks.length<es.length→J ks G→H.length≤it→hget G it=B→B.live→AYield Tryz.prog y [p.1] G (fun v G'=>v=.bool true∧J (ks++[p.1]) G'∧hget G' it=B)) (h0:J [] H):
  ACalls Tryz.prog 167 [.func (.yield y) [] [],.cptr [.map i]] H (fun _ G=>∃ps:List (AV×AV×Nat),ps.Perm es∧J (ps.map (·.1)) G):=by
 refine dH Tryz.func167 rfl (Nat.le_of_ble_eq_true rfl) ?_
 have hm:=hM _ _ h0
 repeat' first|(refine gS ?_;simp only[go_sem,hm])|refine gA ?_|(refine gD (fun h=>?_) (fun h=>?_)<;>try exact aA h)|fail
 refine aP (ι:=List (AV×AV×Nat)×AHeap) (fun s=>[(0,.func (.yield y) [] []),(5,.iter H.length)]) (fun s=>s.2) (fun s=>Gone es s.1∧J (s.1.map (·.1)) s.2∧hget s.2 H.length=.miter i clock (s.1.map (·.2.2)) clock) (fun s=>es.length-s.1.length)
  ([],H++[.miter i clock [] clock]) ⟨⟨fun p hp=>(by cases hp),(by simp)⟩,hA _ _ _ h0,jL H _⟩ ?_ rfl ?_
 ·simp[go_sem]
 rintro⟨ps,G⟩ ⟨hG,hJ,hit⟩
 simp only at hG hJ hit ⊢
 have hmG:=hM _ _ hJ
 have hlt:=bI hit trivial
 repeat' first|(refine gS ?_;simp only[go_sem])|refine gA ?_|(refine gD (fun h=>?_) (fun h=>?_)<;>try exact aA h)|fail
 refine⟨H.length,i,clock,ps.map (·.2.2),clock,es,clock,rfl,hit,hmG,fun p hp=>⟨ho.lt p hp,ho.lt p hp⟩,fun he=>?_,fun p hp=>?_⟩
 ·simp only[go_sem]
  repeat' first|(refine gS ?_;simp only[go_sem])|refine gA ?_|(refine gD (fun h=>?_) (fun h=>?_)<;>try exact aA h)|fail
  exact⟨ps,hG.perm ho he,hJ⟩
 ·obtain⟨hG2,hpe⟩:=hG.step hp
  obtain⟨B,hB⟩:∃B,B=ABlk.miter i clock (ps.map (·.2.2)++[p.2.2]) clock:=⟨_,rfl⟩
  rw[←hB]
  have hJ2:=hI _ _ H.length B hJ (Nat.le_refl _)
  have g1:hget (aD G H.length B) H.length=.miter i clock (ps.map (·.2.2)++[p.2.2]) clock:=by rw[cV hlt,hB]
  have g2:=hM _ _ hJ2
  have g3:=ho.ent hpe (ps.map (·.2.2))
  have hlk:=hG2.len
  rw[List.length_append,List.length_singleton]at hlk
  have hy:=hY _ p _ H.length B hpe (by rw[List.length_map];omega) hJ2 (Nat.le_refl _) (cV hlt B) (by rw[hB];trivial)
  generalize aD G H.length B=G2 at *
  simp only[go_sem]
  repeat' first|(refine gS ?_;simp only[go_sem,g1,g2,g3])|refine gA ?_|(refine gD (fun h=>?_) (fun h=>?_)<;>try exact aA h)|fail
  refine pY hy ?_
  rintro v G' ⟨rfl,hJ3,hit3⟩
  simp only[go_sem]
  repeat' first|(refine gS ?_;simp only[go_sem])|refine gA ?_|(refine gD (fun h=>?_) (fun h=>?_)<;>try exact aA h)|fail
  refine⟨(ps++[p],G'),⟨hG2,by simpa using hJ3,by simp only;rw[hit3,hB];simp⟩,?_,rfl⟩
  have:=hG2.len
  simp only[List.length_append,List.length_cons,List.length_nil]at this ⊢
  omega
theorem aV8(i:Nat)(H:AHeap)(hi:i<H.length):cJ Tryz.prog 115 [.map i] H (.func (.func 167) [] [.cptr [.map i]]):=by
 refine aL Tryz.func115 rfl (Nat.le_of_ble_eq_true rfl) ?_
 repeat' first|(refine gS ?_;simp only[go_sem])|refine gA ?_|(refine gD (fun h=>?_) (fun h=>?_)<;>try exact aA h)|fail
 refine⟨_,_,rfl,?_,rfl⟩
 refine .func _ _ _ _ _ rfl rfl gQ (dW (yN (Nat.le_refl _) (by simp only[go_sem]) ?_) gQ)
 simp only[List.mem_singleton,forall_eq];exact .map _ hi
theorem aN6{H:AHeap}{A B:ABlk}{n:Nat}(hA:ClB n A)(hB:ClB n B):∀(j:Nat) (b:ABlk),(H++[A,B])[j]?=some b→H[j]?=some b∨ClB n b:=fun j b hj=>by
 by_cases hj2:j<H.length
 ·rw[List.getElem?_append_left hj2]at hj;exact .inl hj
 ·rw[List.getElem?_append_right (by omega)]at hj
  refine .inr ?_
  match hk:j-H.length,hj with
  |0,hj=>cases hj;exact hA
  |1,hj=>cases hj;exact hB
  |k+2,hj=>simp at hj
structure JA (H:AHeap) (es:List (AV×AV×Nat)) (clock i:Nat) (LB:ABlk) (ks:List AV) (G:AHeap):Prop where
 pre:∃M,G=H++M
 b0:hget G H.length=.cells 0 [.osl 1 (H.length+1) (ks.length+1) 0 ks.length ks.length]
 b1:hget G (H.length+1)=.cells (ks.length+1) ks
 b2:hget G (H.length+2)=LB
 m:hget G i=.map es clock
 tx:∀k∈ks,∃s:Txt,k=.str s
theorem aKl{es:List (AV×AV×Nat)}{clock:Nat}(ho:MpOk es clock)(i:Nat)(hks:∀p∈es,∃s:Txt,p.1=.str s)(hl:es.length≤1073741824)(H:AHeap)(hm:hget H i=.map es clock):
  ACalls Tryz.prog 197 [.sl true [],.func (.func 167) [] [.cptr [.map i]]] H
   (fun r H'=>∃ps:List (AV×AV×Nat),ps.Perm es∧r=.osl 1 (H.length+1) (ps.length+1) 0 ps.length ps.length∧∃A,ClB (H.length+2) A∧H'=H++[A,.cells (ps.length+1) (ps.map (·.1))]):=by
 refine fW Tryz.func197 rfl (Nat.le_of_ble_eq_true rfl) ?_
 have hil:=bI hm trivial
 repeat' first|(refine gS ?_;simp only[go_sem])|refine gA ?_|(refine gD (fun h=>?_) (fun h=>?_)<;>try exact aA h)|fail
 refine aAr H.length 0 1 (by simp only[go_sem];rfl) rfl ?_
 simp only[go_sem]
 refine aIR [(2,.ref H.length 0 0),(6,.func (.func 167) [] [.cptr [.map i]])] (by simp[go_sem]) ?_
 refine uE rfl aEl fun y LB hLB=>?_
 have hLv:LB.live:=by rw[hLB];trivial
 rw[List.append_assoc]
 have hlen2:(H++[ABlk.cells 0 [.osl 1 (H.length+1) 1 0 0 0],.cells 1 []]).length=H.length+2:=by simp
 rw[hlen2]
 refine(aMO ho i y (JA H es clock i LB) _ (fun ks G h=>h.m) (fun ks G L h=>⟨let⟨M,e⟩:=h.pre;⟨M++L,by rw[e,List.append_assoc]⟩,aH h.b0 trivial L,aH h.b1 trivial L,aH h.b2 hLv L,aH h.m trivial L,h.tx⟩) (fun ks G it X h hit=>?_) (fun ks p G it B hp hkl h hit hB hBl=>?_) ?_).mono fun _ H' ⟨ps,hp,h⟩=>?_
 ·have hit':H.length+3≤it:=by simpa[Nat.add_assoc]using hit
  exact⟨eD h.pre (by omega) X,bB h.b0 (by omega) X,bB h.b1 (by omega) X,bB h.b2 (by omega) X,bB h.m (by omega) X,h.tx⟩
 ·have hit':H.length+3≤it:=by simpa[Nat.add_assoc]using hit
  obtain⟨s,hs⟩:=hks p hp
  rw[hs]
  refine aBF h.b2 hLB rfl rfl rfl rfl fun BB fin hBB hlB hf1 hf2=>?_
  have f3:=aT h.b2 hLv
  have g3:=fM h.b2 hLv
  simp only[aAo]
  refine nU rfl ?_
  simp only[go_sem]
  refine⟨h.b2,?_⟩
  obtain⟨G1,hG1⟩:∃G1,aD G (H.length+2) BB=G1:=⟨_,rfl⟩
  rw[hG1]
  have hl3:=bI h.b2 hLv
  have hlen:G.length=G1.length:=by rw[←hG1];simp[aD]
  have a0:=bB h.b0 (i:=H.length+2) (by omega) BB
  have a1:=bB h.b1 (i:=H.length+2) (by omega) BB
  have a2:hget G1 (H.length+2)=BB:=by rw[←hG1];exact cV hl3 BB
  have a3:=bB h.m (i:=H.length+2) (by omega) BB
  have a4:=bB hB (i:=H.length+2) (by omega) BB
  rw[hG1]at a0 a1 a3 a4
  have a5:∃M,G1=H++M:=by rw[←hG1];exact eD h.pre (by omega) BB
  have hq1:(∀e,e=AV.str s→e.cells.length=1)=True:=eq_true (fun e he=>by rw[he];rfl)
  have hq2:((ks.length+1) * 16≤140737488355328)=True:=eq_true (by omega)
  clear hLB hBB hf2
  have a6:=fun Y=>bB a0 (i:=H.length+1) (by omega) Y
  have hcl:∀n,ClB n (.cells (ks.length+2) (ks++[AV.str s])):=fun n x hx=>by
   rcases List.mem_append.1 hx with hx|hx
   ·obtain⟨t,rfl⟩:=h.tx x hx;exact .str _
   ·rw[List.mem_singleton]at hx;subst hx;exact .str _
  have hl1:=bI a1 trivial
  have hl0:=bI a0 trivial
  have hsp:cR [AV.osl 1 (H.length+1) (ks.length+1) 0 ks.length ks.length] 0 [.osl 1 (H.length+1) (ks.length+2) 0 (ks.length+1) (ks.length+1)]=[.osl 1 (H.length+1) (ks.length+2) 0 (ks.length+1) (ks.length+1)]:=rfl
  repeat' first|(refine gS ?_;simp only[go_sem,a0,a1,a2,a6,hq1,hq2,hsp,Nat.mul_one])|refine gA ?_|(refine gD (fun h=>?_) (fun h=>?_)<;>try exact aA h)|fail
  refine⟨bB (bB a2 (by omega) _) (by omega) _,_,[],(List.append_nil _).symm,by rw[aC,aC],fun j b hj=>?_,rfl,?_,?_⟩
  ·rcases mD (n:=G1.length) (b:=.cells 0 [.osl 1 (H.length+1) (ks.length+2) 0 (ks.length+1) (ks.length+1)]) (fun x hx=>by rw[List.mem_singleton]at hx;subst hx;exact .osl _ _ _ _ _ _ (by omega)) j b hj with q|q
   ·exact mD (hcl _) j b q
   ·exact .inr q
  ·have hkl2:(ks++[AV.str s]).length=ks.length+1:=by simp
   rw[hf1]
   have htx:∀k∈ks++[AV.str s],∃s:Txt,k=.str s:=fun k hk=>by
    rcases List.mem_append.1 hk with hk|hk
    ·exact h.tx k hk
    ·rw[List.mem_singleton]at hk;exact⟨s,hk⟩
   refine⟨eD (eD (eD a5 (by omega) _) (by omega) _) (by omega) _,?_,?_,?_,?_,htx⟩
   ·rw[hkl2];exact bB (cV (by rw[aC];exact hl0) _) (by omega) _
   ·rw[hkl2];exact bB (bB (cV hl1 _) (by omega) _) (by omega) _
   ·exact cV (by rw[aC,aC,←hlen];exact hl3) _
   ·exact bB (bB (bB a3 (by omega) _) (by omega) _) (by omega) _
  ·exact bB (bB (bB a4 (by omega) _) (by omega) _) (by omega) _
 ·exact⟨⟨_,rfl⟩,by simp only[go_sem],by simp only[go_sem],by simp only[go_sem],aH hm trivial _,fun k hk=>by cases hk⟩
 ·refine .inl ⟨.ready,by simp,h.b2.trans hLB,fun X=>?_⟩
  have e0:=bB h.b0 (i:=H.length+2) (by omega) X
  have e1:=bB h.b1 (i:=H.length+2) (by omega) X
  obtain⟨M,e2⟩:=eD (H:=H) h.pre (i:=H.length+2) (by omega) X
  obtain⟨G2,hG2⟩:∃G2,aD H' (H.length+2) X=G2:=⟨_,rfl⟩
  rw[hG2]at e0 e1 e2 ⊢
  simp only[go_sem]
  repeat' first|(refine gS ?_;simp only[go_sem,e0])|refine gA ?_|(refine gD (fun h=>?_) (fun h=>?_)<;>try exact aA h)|fail
  rw[e2,jL]at e0
  rw[e2,pT,List.length_map]at e1
  match M,e0,e1 with
  |A::B::L,e0,e1=>
   simp only[List.getD_cons_zero,List.getD_cons_succ]at e0 e1
   subst e0;subst e1
   have q1:ClB (H.length+2) (.cells 0 [.osl 1 (H.length+1) ((ps.map (·.1)).length+1) 0 (ps.map (·.1)).length (ps.map (·.1)).length]):=fun x hx=>by rw[List.mem_singleton]at hx;subst hx;exact .osl _ _ _ _ _ _ (by omega)
   have q2:ClB (H.length+2) (.cells (ps.length+1) (ps.map (·.1))):=fun x hx=>by obtain⟨q,hq,rfl⟩:=List.mem_map.1 hx;obtain⟨s,e⟩:=hks q (hp.mem_iff.1 hq);rw[e];exact .str _
   exact⟨H++[_,_],L,_,by rw[e2,List.append_assoc];rfl,by simp,by simpa using aN6 q1 q2,.cl _ (.osl _ _ _ _ _ _ (by simp)),ps,hp,rfl,_,q1,rfl⟩
end Go.Proofs.YthhdnjiodklmmaaGreatDoor
