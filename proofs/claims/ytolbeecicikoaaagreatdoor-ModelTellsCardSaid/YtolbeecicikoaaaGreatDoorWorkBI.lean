/- The texts 35 of 53 beneath the rows of this seat (joined by program): the abstract machine, and what the functions answer. No condition. -/
import Derived.Test.YtolbeecicikoaaaGreatDoorWorkAE
import Derived.Test.YtolbeecicikoaaaGreatDoorWorkAH
import Derived.Test.YtolbeecicikoaaaGreatDoorWorkAM
import Derived.Test.YtolbeecicikoaaaGreatDoorWorkAN
import Derived.Test.YtolbeecicikoaaaGreatDoorWorkBH
set_option linter.unusedSimpArgs false
set_option linter.unusedVariables false
set_option linter.unusedSectionVars false
set_option maxRecDepth 100000
set_option maxHeartbeats 16000000
namespace Go.Proofs.YtolbeecicikoaaaGreatDoor
def aLe(a b:Txt):Int:=if kG a b=true then-1 else if kG b a=true then 1 else 0
theorem aVl(a b:Txt):decide (aLe a b<0)=kG a b:=by
 unfold aLe
 cases h:kG a b with
 |true=>rfl
 |false=>
  rw[zAb (by simp)]
  split<;>rfl
theorem aLf(a:Int)(H:AHeap):bD Tryz.prog 239 [.int .i32 a] H (.bool false):=by
 refine fO Tryz.func239 ?_
 have h0:decide (a=a)=true:=zAd rfl
 repeat' first|(refine gS ?_;simp only[go_sem,h0])|refine gA ?_|(refine gD (fun h=>?_) (fun h=>?_)<;>try exact aA h)|fail
 exact bL (.of (by simp))
def aEg(a b:Int):Int:=if a<b then-1 else if b<a then 1 else 0
theorem aRy(a b:Int)(H:AHeap):bD Tryz.prog 223 [.int .i32 a,.int .i32 b] H (.int .i64 (aEg a b)):=by
 refine fO Tryz.func223 ?_
 unfold aEg
 repeat' first|((first|refine gQ (aLf _) ?_|refine gS ?_);simp only[go_sem])|refine gA ?_|(refine gD (fun h=>?_) (fun h=>?_)<;>try exact aA h)|fail
 all_goals exact bL (.of (zAp _ (by simp only[zAr,zAC]at *;(repeat' split)<;>omega)))
def aC4(s:Txt)(k:Nat):ABlk:=.cells 1 (((s.take k).map fun b=>AV.int .i32 ((b.toNat:Int)+1114112))++List.replicate (s.length-k) (AV.int .i32 0))
theorem aGO(s:Txt)(hs:s.length≤1073741824)(H:AHeap):bD Tryz.prog 209 [.str s] H (.sl false ((bX s).map wJ)):=by
 refine fO Tryz.func209 ?_
 have hsp:=aGc s hs
 unfold bX
 cases hc:kB s with
 |some l=>
  rw[hc]at hsp
  simp only[aAE]at hsp
  repeat' first|(refine gS ?_;simp only[go_sem])|refine gA ?_|(refine gD (fun h=>?_) (fun h=>?_)<;>try exact aA h)|fail
  exact aO6 (.sl _ _ fun e he=>by obtain⟨x,_,rfl⟩:=zAi.1 he;exact .int _ _) (.refl _)
 |none=>
  rw[hc]at hsp
  simp only[aAE]at hsp
  repeat' first|(refine gS ?_;simp only[go_sem])|refine gA ?_|(refine gD (fun h=>?_) (fun h=>?_)<;>try exact aA h)|fail
  refine aH (ι:=Nat) (fun k=>[(0,.str s),(3,.osl 1 H.length 1 0 k s.length),(17,.int .i64 s.length),(18,.int .i64 k)]) (fun k=>H++[aC4 s k]) (fun k=>k≤s.length) (fun k=>s.length-k) 0 (zAn _) ?_ (by simp[aC4,aDz]) ?_
  ·simp[go_sem]
  intro k hk
  by_cases hlt:k<s.length
  ·have hli:decide ((k:Int)<(s.length:Int))=true:=dT
   have hgd:s.getD k 0=s[k]:=by simp[zAs,hlt]
   have hb:=s[k].toNat_lt
   have hw1:IntKind.i32.wrap ((s[k].toNat:Nat):Int)=((s[k].toNat:Nat):Int):=by simp[IntKind.wrap,IntKind.bits,IntKind.signed];omega
   have hw2:IntKind.i32.wrap (1114111+((s[k].toNat:Nat):Int))=1114111+((s[k].toNat:Nat):Int):=by simp[IntKind.wrap,IntKind.bits,IntKind.signed];omega
   have hw3:IntKind.i32.wrap (1114111+((s[k].toNat:Nat):Int)+1)=((s[k].toNat:Nat):Int)+1114112:=by simp[IntKind.wrap,IntKind.bits,IntKind.signed];omega
   have hw4:IntKind.i64.wrap ((k:Int)+1)=((k+1:Nat):Int):=aI (by omega) (by omega)
   have hne:(k=s.length)=False:=zDa (by omega)
   obtain⟨m,hm⟩:∃m,s.length-k=m+1:=⟨s.length-k-1,by omega⟩
   have hm2:s.length-(k+1)=m:=by omega
   have hsr:=tS ((s.take k).map fun b=>AV.int .i32 ((b.toNat:Int)+1114112)) m (.int .i32 0) (.int .i32 ((s[k].toNat:Int)+1114112))
   rw[zAj,zAy,Nat.min_eq_left hk]at hsr
   have hq:(∀e,e=AV.int .i32 ((s[k].toNat:Int)+1114112)→e.cells.length=1)=True:=zAI fun e he=>by rw[he];rfl
   unfold aC4
   rw[hm]
   repeat' first|(refine gS ?_;simp only[go_sem,hli,hgd,hw1,hw2,hw3,hw4,hne,hq,zAz,hsr])|refine gA ?_|(refine gD (fun h=>?_) (fun h=>?_)<;>try exact aA h)|fail
   exact⟨k+1,hlt,by omega,⟨rfl,rfl⟩,by rw[hm2,zAa hlt,zBa,zAu];rfl⟩
  ·have hke:k=s.length:=by omega
   subst hke
   have hli:decide ((s.length:Int)<(s.length:Int))=false:=by simp
   unfold aC4
   repeat' first|(refine gS ?_;simp only[go_sem,hli])|refine gA ?_|(refine gD (fun h=>?_) (fun h=>?_)<;>try exact aA h)|fail
   rw[zAq]
   exact fN (es:=(s.map fun b=>((b.toNat:Int)+1114112)).map wJ) (rest:=List.replicate (s.length-s.length) (AV.int .i32 0)) (zAh _) (by simp only[go_sem];rfl) (by rw[Nat.sub_self,List.replicate_zero];congr 1;rw[zCa,zCz];exact List.map_eq_flatMap ..) (by simp) (fun e he=>by obtain⟨c,_,rfl⟩:=zAi.1 he;rfl) (fun e he=>by obtain⟨c,_,rfl⟩:=zAi.1 he;exact .int _ _) rfl
theorem aNS(b1 b2:Bool)(l m:List Int)(H:AHeap):bD Tryz.prog 208 [.sl b1 (l.map wJ),.sl b2 (m.map wJ)] H (.int .i64 (fK l m)):=by
 refine eR fun hok _=>?_
 have hl:=jB hok
 rw[zAj]at hl
 refine fO Tryz.func208 ?_
 obtain⟨X,hX⟩:∃X,fK l m=X:=⟨_,rfl⟩
 rw[hX]
 repeat' first|(refine gS ?_;simp only[go_sem])|refine gA ?_|(refine gD (fun h=>?_) (fun h=>?_)<;>try exact aA h)|fail
 refine aH (ι:=Nat) (fun k=>[(0,.sl b1 (l.map wJ)),(1,.sl b2 (m.map wJ)),(9,.sl b1 (l.map wJ)),(10,.int .i64 l.length),(11,.int .i64 k)]) (fun _=>H) (fun k=>k≤l.length∧k≤m.length∧fK (l.drop k) (m.drop k)=X) (fun k=>l.length-k) 0 ⟨zAn _,zAn _,by simpa using hX⟩ ?_ rfl ?_
 ·simp[go_sem]
 rintro k ⟨h1,h2,h3⟩
 by_cases hlt:k<l.length
 ·have hli:decide ((k:Int)<(l.length:Int))=true:=dT
  have hp:=aJ wJ hlt
  have hw:IntKind.i64.wrap ((k:Int)+1)=((k+1:Nat):Int):=by rw[wI];rfl
  rw[zAk hlt]at h3
  by_cases hm:k<m.length
  ·have hli2:decide ((m.length:Int)≤(k:Int))=false:=dF
   have hq:=aJ wJ hm
   have hc:=aRy l[k] m[k]
   rw[zAk hm,fK]at h3
   by_cases hne:aEg l[k] m[k]=0
   ·have hz:decide (aEg l[k] m[k]=0)=true:=zAd hne
    have:¬l[k]<m[k]∧¬m[k]<l[k]:=by unfold aEg at hne;(repeat' split at hne)<;>omega
    rw[zAb this.1,zAb this.2]at h3
    repeat' first|(refine gS ?_;simp only[go_sem,hli,hli2,hp,hq,hz,hw,wJ])|refine gA ?_|(refine gD (fun h=>?_) (fun h=>?_)<;>try exact aA h)|fail
    exact⟨k+1,⟨hlt,hm,h3⟩,by omega,rfl⟩
   ·have hz:decide (aEg l[k] m[k]=0)=false:=eT hne
    have:aEg l[k] m[k]=X:=by rw[←h3];unfold aEg at hne ⊢;(repeat' split)<;>first|rfl|omega
    repeat' first|(refine gS ?_;simp only[go_sem,hli,hli2,hp,hq,hz,wJ])|refine gA ?_|(refine gD (fun h=>?_) (fun h=>?_)<;>try exact aA h)|fail
    exact bL (.of (by rw[this]))
  ·have hli2:decide ((m.length:Int)≤(k:Int))=true:=dT
   rw[show m.drop k=[]from zAN (by omega),fK]at h3
   repeat' first|(refine gS ?_;simp only[go_sem,hli,hli2,hp,wJ])|refine gA ?_|(refine gD (fun h=>?_) (fun h=>?_)<;>try exact aA h)|fail
   exact bL (.of (by rw[←h3]))
 ·have hli:decide ((k:Int)<(l.length:Int))=false:=dF
  rw[show l.drop k=[]from zAN (by omega)]at h3
  by_cases hm:l.length<m.length
  ·have hli2:decide ((l.length:Int)<(m.length:Int))=true:=dT
   rw[zAk (show k<m.length by omega),fK]at h3
   repeat' first|(refine gS ?_;simp only[go_sem,hli,hli2])|refine gA ?_|(refine gD (fun h=>?_) (fun h=>?_)<;>try exact aA h)|fail
   exact bL (.of (by rw[←h3]))
  ·have hli2:decide ((l.length:Int)<(m.length:Int))=false:=dF
   rw[show m.drop k=[]from zAN (by omega),fK]at h3
   repeat' first|(refine gS ?_;simp only[go_sem,hli,hli2])|refine gA ?_|(refine gD (fun h=>?_) (fun h=>?_)<;>try exact aA h)|fail
   exact bL (.of (by rw[←h3]))
theorem aGP(a b:Txt)(ha:a.length≤1073741824)(hb:b.length≤1073741824)(H:AHeap):bD Tryz.prog 185 [.str a,.str b] H (.bool (kG a b)):=by
 refine fO Tryz.func185 ?_
 have h1:=aGO a ha
 have h2:=aGO b hb
 have h3:=aNS false false (bX a) (bX b)
 repeat' first|(refine gS ?_;simp only[go_sem])|refine gA ?_|(refine gD (fun h=>?_) (fun h=>?_)<;>try exact aA h)|fail
 exact bL (.refl _)
theorem aIf(a b:Txt)(ha:a.length≤1073741824)(hb:b.length≤1073741824)(H:AHeap):bD Tryz.prog 184 [.str a,.str b] H (.int .i64 (aLe a b)):=by
 refine fO Tryz.func184 ?_
 have h1:=aGP a b ha hb
 have h2:=aGP b a hb ha
 unfold aLe
 repeat' first|(refine gS ?_;simp only[go_sem])|refine gA ?_|(refine gD (fun h=>?_) (fun h=>?_)<;>try exact aA h)|fail
 all_goals exact bL (.of (by simp_all))
theorem aRz:vQ Tryz.prog (.func (.func 184) [] []) (fun a b=>aLe a.1 b.1):=fun a b H=>.inl ⟨(cO),aIf a.1 b.1 a.2 b.2 H⟩
end Go.Proofs.YtolbeecicikoaaaGreatDoor
namespace Go.Proofs.YtolbeecicikoaaaGreatDoor
structure MpOk (es:List (AV×AV×Nat)) (clock:Nat):Prop where
 nd:(es.map (·.2.2)).Nodup
 lt:∀p∈es,p.2.2<clock
theorem MpOk.find{es:List (AV×AV×Nat)}{clock:Nat}(h:MpOk es clock){p:AV×AV×Nat}(hp:p∈es):es.find? (fun q=>q.2.2==p.2.2)=some p:=by
 have hn:=h.nd
 clear h
 induction es<;>grind
theorem MpOk.ent{es:List (AV×AV×Nat)}{clock:Nat}(h:MpOk es clock){p:AV×AV×Nat}(hp:p∈es)(sb:List Nat):aTi clock (sb++[p.2.2]) (.map es clock)=⟨.tup [p.1,p.2.1],True⟩:=by
 simp only[aTi,List.getLast?_append,List.getLast?_singleton,Option.some_or,h.find hp]
theorem MpOk.filter{es:List (AV×AV×Nat)}{clock:Nat}(h:MpOk es clock)(f:AV×AV×Nat→Bool):MpOk (es.filter f) clock:=
 ⟨List.Nodup.sublist (List.Sublist.map _ List.filter_sublist) h.nd,fun p hp=>h.lt p (zBi.1 hp).1⟩
structure Gone (es ps:List (AV×AV×Nat)):Prop where
 sub:∀p∈ps,p∈es
 nd:(ps.map (·.2.2)).Nodup
theorem Gone.step{es ps:List (AV×AV×Nat)}(h:Gone es ps){p:AV×AV×Nat}(hp:p∈aEC es (ps.map (·.2.2))):Gone es (ps++[p])∧p∈es:=by
 obtain⟨h1,h2⟩:=zBi.1 hp
 refine⟨⟨fun q hq=>?_,?_⟩,h1⟩
 ·grind [zAD,zAx,List,Nat,Gone,aEC]
 grind [zBi,zAD,zAx,List,Nat,Gone,aEC,zBa,List.nodup_append,zAA,zBx,zBc]
theorem wE{α β:Type}(f:α→β){l:List α}(h:(l.map f).Nodup):l.Nodup:=by
 induction l<;>grind
theorem aIg{α:Type}[DecidableEq α]{xs ys:List α}(hn:xs.Nodup)(hs:∀x∈xs,x∈ys):xs.length≤ys.length:=by
 induction xs generalizing ys with
 |nil=>exact zAn _
 |cons x xs ih=>
  rw[zCF]at hn
  have hx:=hs x (by simp)
  have h2:∀z∈xs,z∈ys.erase x:=fun z hz=>(List.mem_erase_of_ne (by rintro rfl;exact hn.1 hz)).2 (hs z (zAP _ hz))
  have:=ih hn.2 h2
  grind
theorem Gone.len{es ps:List (AV×AV×Nat)}(h:Gone es ps):ps.length≤es.length:=by
 have:=aIg (ys:=es.map (·.2.2)) h.nd (fun x hx=>by grind [zAi,List,Nat,Gone])
 simpa using this
theorem Gone.perm{es ps:List (AV×AV×Nat)}{clock:Nat}(h:Gone es ps)(ho:MpOk es clock)(he:aEC es (ps.map (·.2.2))=[]):ps.Perm es:=by
 refine(List.perm_ext_iff_of_nodup (wE _ h.nd) (wE _ ho.nd)).2 fun p=>⟨h.sub p,fun hp=>?_⟩
 have:p.2.2∈ps.map (·.2.2):=by
  have:=List.filter_eq_nil_iff.1 he p hp
  simpa using this
 obtain⟨q,hq,e⟩:=zAi.1 this
 have e1:=ho.find (h.sub q hq)
 have e2:=ho.find hp
 rw[e]at e1
 rw[e1]at e2
 cases e2
 exact hq
theorem aNT{es:List (AV×AV×Nat)}{clock:Nat}(ho:MpOk es clock)(i y:Nat)(J:List AV→AHeap→Prop)(H:AHeap)(hM:∀ks G,J ks G→hget G i=.map es clock)(hA:∀ks G L,J ks G→J ks (G++L))(hI:∀ks G it X,J ks G→H.length≤it→J ks (aB G it X))
  (hY:∀ks p G it B,p∈es→ks.length<es.length→J ks G→H.length≤it→hget G it=B→B.live→AYield Tryz.prog y [p.1] G (fun v G'=>v=.bool true∧J (ks++[p.1]) G'∧hget G' it=B)) (h0:J [] H):
  ACalls Tryz.prog 207 [.func (.yield y) [] [],.cptr [.map i]] H (fun _ G=>∃ps:List (AV×AV×Nat),ps.Perm es∧J (ps.map (·.1)) G):=by
 refine aW Tryz.func207 ?_
 have hm:=hM _ _ h0
 repeat' first|(refine gS ?_;simp only[go_sem,hm])|refine gA ?_|(refine gD (fun h=>?_) (fun h=>?_)<;>try exact aA h)|fail
 refine aH (ι:=List (AV×AV×Nat)×AHeap) (fun s=>[(0,.func (.yield y) [] []),(5,.iter H.length)]) (fun s=>s.2) (fun s=>Gone es s.1∧J (s.1.map (·.1)) s.2∧hget s.2 H.length=.miter i clock (s.1.map (·.2.2)) clock) (fun s=>es.length-s.1.length)
  ([],H++[.miter i clock [] clock]) ⟨⟨fun p hp=>(by cases hp),(by simp)⟩,hA _ _ _ h0,jO H _⟩ ?_ rfl ?_
 ·simp[go_sem]
 rintro⟨ps,G⟩ ⟨hG,hJ,hit⟩
 simp only at hG hJ hit ⊢
 have hmG:=hM _ _ hJ
 have hlt:=aU hit trivial
 repeat' first|(refine gS ?_;simp only[go_sem])|refine gA ?_|(refine gD (fun h=>?_) (fun h=>?_)<;>try exact aA h)|fail
 refine⟨H.length,i,clock,ps.map (·.2.2),clock,es,clock,rfl,hit,hmG,fun p hp=>⟨ho.lt p hp,ho.lt p hp⟩,fun he=>?_,fun p hp=>?_⟩
 ·simp only[go_sem]
  repeat' first|(refine gS ?_;simp only[go_sem])|refine gA ?_|(refine gD (fun h=>?_) (fun h=>?_)<;>try exact aA h)|fail
  exact⟨ps,hG.perm ho he,hJ⟩
 ·obtain⟨hG2,hpe⟩:=hG.step hp
  obtain⟨B,hB⟩:∃B,B=ABlk.miter i clock (ps.map (·.2.2)++[p.2.2]) clock:=⟨_,rfl⟩
  rw[←hB]
  have hJ2:=hI _ _ H.length B hJ (zAh _)
  have g1:hget (aB G H.length B) H.length=.miter i clock (ps.map (·.2.2)++[p.2.2]) clock:=by rw[cJ hlt,hB]
  have g2:=hM _ _ hJ2
  have g3:=ho.ent hpe (ps.map (·.2.2))
  have hlk:=hG2.len
  rw[zAe,zAX]at hlk
  have hy:=hY _ p _ H.length B hpe (by rw[zAj];omega) hJ2 (zAh _) (cJ hlt B) (by rw[hB];trivial)
  generalize aB G H.length B=G2 at *
  simp only[go_sem]
  repeat' first|(refine gS ?_;simp only[go_sem,g1,g2,g3])|refine gA ?_|(refine gD (fun h=>?_) (fun h=>?_)<;>try exact aA h)|fail
  refine rH hy ?_
  rintro v G' ⟨rfl,hJ3,hit3⟩
  simp only[go_sem]
  repeat' first|(refine gS ?_;simp only[go_sem])|refine gA ?_|(refine gD (fun h=>?_) (fun h=>?_)<;>try exact aA h)|fail
  refine⟨(ps++[p],G'),⟨hG2,by simpa using hJ3,by simp only;rw[hit3,hB];simp⟩,?_,rfl⟩
  have:=hG2.len
  simp only[zAe,zAm,zAE]at this ⊢
  omega
theorem aWi(i:Nat)(H:AHeap)(hi:i<H.length):bD Tryz.prog 183 [.map i] H (.func (.func 207) [] [.cptr [.map i]]):=by
 refine fO Tryz.func183 ?_
 repeat' first|(refine gS ?_;simp only[go_sem])|refine gA ?_|(refine gD (fun h=>?_) (fun h=>?_)<;>try exact aA h)|fail
 refine⟨_,_,rfl,?_,rfl⟩
 refine .func _ _ _ _ _ rfl rfl cI (aS (zS (zAh _) (by simp only[go_sem]) ?_) cI)
 simp only[zAx,forall_eq];exact .map _ hi
theorem aPq{H:AHeap}{A B:ABlk}{n:Nat}(hA:ClB n A)(hB:ClB n B):∀(j:Nat) (b:ABlk),(H++[A,B])[j]?=some b→H[j]?=some b∨ClB n b:=fun j b hj=>by
 grind
structure JA (H:AHeap) (es:List (AV×AV×Nat)) (clock i:Nat) (LB:ABlk) (ks:List AV) (G:AHeap):Prop where
 pre:∃M,G=H++M
 b0:hget G H.length=.cells 0 [.osl 1 (H.length+1) (ks.length+1) 0 ks.length ks.length]
 b1:hget G (H.length+1)=.cells (ks.length+1) ks
 b2:hget G (H.length+2)=LB
 m:hget G i=.map es clock
 tx:∀k∈ks,∃s:Txt,k=.str s
theorem aLg{es:List (AV×AV×Nat)}{clock:Nat}(ho:MpOk es clock)(i:Nat)(hks:∀p∈es,∃s:Txt,p.1=.str s)(hl:es.length≤1073741824)(H:AHeap)(hm:hget H i=.map es clock):
  ACalls Tryz.prog 220 [.sl true [],.func (.func 207) [] [.cptr [.map i]]] H
   (fun r H'=>∃ps:List (AV×AV×Nat),ps.Perm es∧r=.osl 1 (H.length+1) (ps.length+1) 0 ps.length ps.length∧∃A,ClB (H.length+2) A∧H'=H++[A,.cells (ps.length+1) (ps.map (·.1))]):=by
 refine aQ Tryz.func220 ?_
 have hil:=aU hm trivial
 repeat' first|(refine gS ?_;simp only[go_sem])|refine gA ?_|(refine gD (fun h=>?_) (fun h=>?_)<;>try exact aA h)|fail
 refine nE H.length 0 1 (by simp only[go_sem];rfl) rfl ?_
 simp only[go_sem]
 refine aJv [(2,.ref H.length 0 0),(6,.func (.func 207) [] [.cptr [.map i]])] (by simp[go_sem]) ?_
 refine uT rfl (cO) fun y LB hLB=>?_
 have hLv:LB.live:=by rw[hLB];trivial
 rw[zAu]
 have hlen2:(H++[ABlk.cells 0 [.osl 1 (H.length+1) 1 0 0 0],.cells 1 []]).length=H.length+2:=by simp
 rw[hlen2]
 refine(aNT ho i y (JA H es clock i LB) _ (fun ks G h=>h.m) (fun ks G L h=>⟨let⟨M,e⟩:=h.pre;⟨M++L,by rw[e,zAu]⟩,aG h.b0 trivial L,aG h.b1 trivial L,aG h.b2 hLv L,aG h.m trivial L,h.tx⟩) (fun ks G it X h hit=>?_) (fun ks p G it B hp hkl h hit hB hBl=>?_) ?_).mono fun _ H' ⟨ps,hp,h⟩=>?_
 ·have hit':H.length+3≤it:=by simpa[zCc]using hit
  exact⟨cR h.pre (by omega) X,aT h.b0 (by omega) X,aT h.b1 (by omega) X,aT h.b2 (by omega) X,aT h.m (by omega) X,h.tx⟩
 ·have hit':H.length+3≤it:=by simpa[zCc]using hit
  obtain⟨s,hs⟩:=hks p hp
  rw[hs]
  refine aBI h.b2 hLB rfl rfl rfl rfl fun BB fin hBB hlB hf1 hf2=>?_
  have f3:=aR h.b2 hLv
  have g3:=eE h.b2 hLv
  simp only[aAx]
  refine kS rfl ?_
  simp only[go_sem]
  refine⟨h.b2,?_⟩
  obtain⟨G1,hG1⟩:∃G1,aB G (H.length+2) BB=G1:=⟨_,rfl⟩
  rw[hG1]
  have hl3:=aU h.b2 hLv
  have hlen:G.length=G1.length:=by rw[←hG1];simp[aB]
  have a0:=aT h.b0 (i:=H.length+2) (by omega) BB
  have a1:=aT h.b1 (i:=H.length+2) (by omega) BB
  have a2:hget G1 (H.length+2)=BB:=by rw[←hG1];exact cJ hl3 BB
  have a3:=aT h.m (i:=H.length+2) (by omega) BB
  have a4:=aT hB (i:=H.length+2) (by omega) BB
  rw[hG1]at a0 a1 a3 a4
  have a5:∃M,G1=H++M:=by rw[←hG1];exact cR h.pre (by omega) BB
  have hq1:(∀e,e=AV.str s→e.cells.length=1)=True:=zAI (fun e he=>by rw[he];rfl)
  have hq2:((ks.length+1) * 16≤140737488355328)=True:=zAI (by omega)
  clear hLB hBB hf2
  have a6:=fun Y=>aT a0 (i:=H.length+1) (by omega) Y
  have hcl:∀n,ClB n (.cells (ks.length+2) (ks++[AV.str s])):=fun n x hx=>by
   rcases zAD.1 hx with hx|hx
   ·obtain⟨t,rfl⟩:=h.tx x hx;exact .str _
   ·rw[zAx]at hx;subst hx;exact .str _
  have hl1:=aU a1 trivial
  have hl0:=aU a0 trivial
  have hsp:cH [AV.osl 1 (H.length+1) (ks.length+1) 0 ks.length ks.length] 0 [.osl 1 (H.length+1) (ks.length+2) 0 (ks.length+1) (ks.length+1)]=[.osl 1 (H.length+1) (ks.length+2) 0 (ks.length+1) (ks.length+1)]:=rfl
  repeat' first|(refine gS ?_;simp only[go_sem,a0,a1,a2,a6,hq1,hq2,hsp,zAz])|refine gA ?_|(refine gD (fun h=>?_) (fun h=>?_)<;>try exact aA h)|fail
  refine⟨aT (aT a2 (by omega) _) (by omega) _,_,[],(zAg _).symm,by rw[aC,aC],fun j b hj=>?_,rfl,?_,?_⟩
  ·rcases nD (n:=G1.length) (b:=.cells 0 [.osl 1 (H.length+1) (ks.length+2) 0 (ks.length+1) (ks.length+1)]) (fun x hx=>by rw[zAx]at hx;subst hx;exact .osl _ _ _ _ _ _ (by omega)) j b hj with q|q
   ·exact nD (hcl _) j b q
   ·exact .inr q
  ·have hkl2:(ks++[AV.str s]).length=ks.length+1:=by simp
   rw[hf1]
   have htx:∀k∈ks++[AV.str s],∃s:Txt,k=.str s:=fun k hk=>by
    rcases zAD.1 hk with hk|hk
    ·exact h.tx k hk
    ·rw[zAx]at hk;exact⟨s,hk⟩
   refine⟨cR (cR (cR a5 (by omega) _) (by omega) _) (by omega) _,?_,?_,?_,?_,htx⟩
   ·rw[hkl2];exact aT (cJ (by rw[aC];exact hl0) _) (by omega) _
   ·rw[hkl2];exact aT (aT (cJ hl1 _) (by omega) _) (by omega) _
   ·exact cJ (by rw[aC,aC,←hlen];exact hl3) _
   ·exact aT (aT (aT a3 (by omega) _) (by omega) _) (by omega) _
  ·exact aT (aT (aT a4 (by omega) _) (by omega) _) (by omega) _
 ·exact⟨⟨_,rfl⟩,by simp only[go_sem],by simp only[go_sem],by simp only[go_sem],aG hm trivial _,fun k hk=>by cases hk⟩
 ·refine .inl ⟨.ready,by simp,h.b2.trans hLB,fun X=>?_⟩
  have e0:=aT h.b0 (i:=H.length+2) (by omega) X
  have e1:=aT h.b1 (i:=H.length+2) (by omega) X
  obtain⟨M,e2⟩:=cR (H:=H) h.pre (i:=H.length+2) (by omega) X
  obtain⟨G2,hG2⟩:∃G2,aB H' (H.length+2) X=G2:=⟨_,rfl⟩
  rw[hG2]at e0 e1 e2 ⊢
  simp only[go_sem]
  repeat' first|(refine gS ?_;simp only[go_sem,e0])|refine gA ?_|(refine gD (fun h=>?_) (fun h=>?_)<;>try exact aA h)|fail
  rw[e2,jO]at e0
  rw[e2,rA,zAj]at e1
  match M,e0,e1 with
  |A::B::L,e0,e1=>
   simp only[List.getD_cons_zero,List.getD_cons_succ]at e0 e1
   subst e0;subst e1
   have q1:ClB (H.length+2) (.cells 0 [.osl 1 (H.length+1) ((ps.map (·.1)).length+1) 0 (ps.map (·.1)).length (ps.map (·.1)).length]):=fun x hx=>by rw[zAx]at hx;subst hx;exact .osl _ _ _ _ _ _ (by omega)
   have q2:ClB (H.length+2) (.cells (ps.length+1) (ps.map (·.1))):=fun x hx=>by obtain⟨q,hq,rfl⟩:=zAi.1 hx;obtain⟨s,e⟩:=hks q (hp.mem_iff.1 hq);rw[e];exact .str _
   exact⟨H++[_,_],L,_,by rw[e2,zAu];rfl,by simp,by simpa using aPq q1 q2,.cl _ (.osl _ _ _ _ _ _ (by simp)),ps,hp,rfl,_,q1,rfl⟩
end Go.Proofs.YtolbeecicikoaaaGreatDoor
