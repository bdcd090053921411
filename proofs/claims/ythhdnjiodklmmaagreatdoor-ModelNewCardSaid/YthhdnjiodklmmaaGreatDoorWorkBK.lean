/- The texts 37 of 51 beneath the rows of this seat (joined by program): the abstract machine, and what the functions answer. No condition. -/
import Derived.Test.YthhdnjiodklmmaaGreatDoorWorkBJ
set_option linter.unusedSimpArgs false
set_option linter.unusedVariables false
set_option linter.unusedSectionVars false
/- view.List: the names that are seen in a directory, in order. No condition but how many and how long they are. -/
namespace Go.Gw
open Go Go.Aw Go.Proofs.YthhdnjiodklmmaaGreatDoor
theorem aAZ(b:Nat)(m:List (Txt×Nd)):(mT b m).map (·.2.2)=List.range' b m.length:=by
 induction m generalizing b with
 |nil=>rfl
 |cons p m ih=>rw[mT,List.map_cons,ih,List.length_cons,List.range'_succ]
theorem aQW(m:List (Txt×Nd)):MpOk (mT 0 m) m.length where
 nd:=by rw[aAZ];exact List.nodup_range'
 lt:=fun p hp=>by
  have:p.2.2∈(mT 0 m).map (·.2.2):=List.mem_map.2 ⟨p,hp,rfl⟩
  rw[aAZ]at this
  have:=List.mem_range'_1.1 this
  omega
theorem aMP(b:Nat)(m:List (Txt×Nd)):(mT b m).map (·.1)=(m.map (·.1)).map AV.str:=by
 induction m generalizing b with
 |nil=>rfl
 |cons p m ih=>rw[mT,List.map_cons,ih];rfl
def unS:AV→Txt
 |.str s=>s
 |_=>[]
theorem aUv{xs:List AV}{ks:List Txt}(h:xs.Perm (ks.map AV.str)):∃qs:List Txt,xs=qs.map AV.str∧qs.Perm ks:=by
 refine⟨xs.map unS,?_,?_⟩
 ·rw[List.map_map]
  have hx:∀x∈xs,(AV.str∘unS) x=x:=fun x hx=>by
   obtain⟨s, -,rfl⟩:=List.mem_map.1 (h.mem_iff.1 hx);rfl
  rw[List.map_congr_left hx,List.map_id']
 ·have:=h.map unS
  rw[List.map_map]at this
  simpa[Function.comp_def,unS]using this
theorem aS4(l:List Txt):(l.map AV.str).flatMap AV.cells=l.map AV.str:=by rw[List.flatMap_map];exact(List.map_eq_flatMap ..).symm
def SmL(l:List Txt):Prop:=∀s∈l,s.length≤1073741824
def aUw(l:List Txt)(h:SmL l):List iE:=l.attach.map fun s=>⟨s.1,h s.1 s.2⟩
theorem aUx(l:List Txt)(h:SmL l):(aUw l h).map (·.1)=l:=by
 unfold aUw
 rw[List.map_map]
 show l.attach.map (fun s=>s.1)=l
 exact List.attach_map_subtype_val l
theorem aS5{d d':Array iE}{ks:List Txt}(hp:(d.toList.map (·.1)).Perm ks)(h1:Sort.PermIn 0 d.size d d')(h2:Sort.SortedIn (fun a b=>yW a.1 b.1) 0 d.size d'):d'.toList.map (·.1)=pL ks:=by
 obtain⟨e1, -,e3⟩:=h1
 have hx:∀(a:Array iE),a.extract 0 a.size=a:=fun a=>by simp
 rw[hx d]at e3
 rw[←e1,hx d']at e3
 refine aEY ?_ ((e3.map _).trans hp)
 rw[List.pairwise_map,List.pairwise_iff_getElem]
 intro i j hi hj hij
 have hi':i<d'.size:=by simpa using hi
 have hj':j<d'.size:=by simpa using hj
 have:=h2 i j (Nat.zero_le _) hij (by omega)
 simp only[getElem!_pos d' i hi',getElem!_pos d' j hj']at this
 simpa using this
end Go.Gw
namespace Go.Proofs.YthhdnjiodklmmaaGreatDoor
open Go Go.Aw Go.Gw
set_option linter.unusedSimpArgs false
set_option linter.unusedVariables false
set_option maxRecDepth 20000
set_option maxHeartbeats 4000000
theorem aHL{es:List (AV×AV×Nat)}{clock:Nat}(ho:MpOk es clock)(i:Nat)(hks:∀p∈es,∃s:Txt,p.1=.str s)(hl:es.length≤1073741824)(H:AHeap)(hm:hget H i=.map es clock):
  ACalls Tryz.prog 165 [.func (.func 167) [] [.cptr [.map i]]] H
   (fun r H'=>∃ps:List (AV×AV×Nat),ps.Perm es∧r=.osl 1 (H.length+1) (ps.length+1) 0 ps.length ps.length∧∃A,ClB (H.length+2) A∧H'=H++[A,.cells (ps.length+1) (ps.map (·.1))]):=by
 refine fW Tryz.func165 rfl (Nat.le_of_ble_eq_true rfl) ?_
 repeat' first|(refine gS ?_;simp only[go_sem])|refine gA ?_|(refine gD (fun h=>?_) (fun h=>?_)<;>try exact aA h)|fail
 refine bE (aKl ho i hks hl H hm) aEp ?_
 rintro r H' ⟨ps,hp,rfl,A,hA,rfl⟩
 simp only[go_sem]
 repeat' first|(refine gS ?_;simp only[go_sem])|refine gA ?_|(refine gD (fun h=>?_) (fun h=>?_)<;>try exact aA h)|fail
 have q2:ClB (H.length+2) (.cells (ps.length+1) (ps.map (·.1))):=fun x hx=>by obtain⟨q,hq,rfl⟩:=List.mem_map.1 hx;obtain⟨s,e⟩:=hks q (hp.mem_iff.1 hq);rw[e];exact .str _
 exact⟨H++[A,.cells (ps.length+1) (ps.map (·.1))],[],_,(List.append_nil _).symm,by simp,by simpa using aN6 hA q2,.cl _ (.osl _ _ _ _ _ _ (by simp)),ps,hp,rfl,A,hA,rfl⟩
theorem aVc:Sort.SWO (fun a b:iE=>yW a.1 b.1) where
 irrefl:=fun x=>rN.irrefl x.1
 trans:=fun x y z=>rN.trans x.1 y.1 z.1
 ntrans:=fun x y z=>rN.ntrans x.1 y.1 z.1
theorem aS6{es:List (AV×AV×Nat)}{clock:Nat}(ho:MpOk es clock)(i:Nat){ks:List Txt}(hk:es.map (·.1)=ks.map AV.str)(hs:SmL ks)(hl:es.length≤1073741824)(H:AHeap)(hm:hget H i=.map es clock):
  cJ Tryz.prog 114 [.func (.func 167) [] [.cptr [.map i]],.func (.func 116) [] []] H (.sl false ((pL ks).map AV.str)):=by
 refine aL Tryz.func114 rfl (Nat.le_of_ble_eq_true rfl) ?_
 have hks:∀p∈es,∃s:Txt,p.1=.str s:=fun p hp=>by
  have:p.1∈ks.map AV.str:=hk▸List.mem_map.2 ⟨p,hp,rfl⟩
  obtain⟨s, -,e⟩:=List.mem_map.1 this
  exact⟨s,e.symm⟩
 repeat' first|(refine gS ?_;simp only[go_sem])|refine gA ?_|(refine gD (fun h=>?_) (fun h=>?_)<;>try exact aA h)|fail
 refine bE (aHL ho i hks hl H hm) aEk ?_
 rintro r H' ⟨ps,hp,rfl,A,hA,rfl⟩
 -- the keys, in whatever order
 obtain⟨qs,hq1,hq2⟩:∃qs:List Txt,ps.map (·.1)=qs.map AV.str∧qs.Perm ks:=by
  have h1:(ps.map (·.1)).Perm (ks.map AV.str):=hk▸hp.map _
  exact aUv h1
 have hsq:SmL qs:=fun s h=>hs s (hq2.mem_iff.1 h)
 have hlen:ps.length=(aUw qs hsq).toArray.size:=by
  have:=congrArg List.length hq1
  simp only[List.length_map]at this
  simp[aUw,this]
 have hd:ps.map (·.1)=dC (aUw qs hsq).toArray:=by
  unfold dC
  rw[hq1]
  conv=>lhs;rw[←aUx qs hsq]
  simp
 rw[hd]
 have hpl:=hp.length_eq
 simp only[go_sem]
 repeat' first|(refine gS ?_;simp only[go_sem])|refine gA ?_|(refine gD (fun h=>?_) (fun h=>?_)<;>try exact aA h)|fail
 refine bE (aU9 aVc (fun x y=>aVa x.1 y.1) aQV hlen (by omega) _ (show hget (H++[A,.cells (ps.length+1) (dC (aUw qs hsq).toArray)]) (H.length+1)=_ from pT H _ 1)) aPG ?_
 rintro r H' ⟨d',s1,s2,rfl,rfl⟩
 have hpp:((aUw qs hsq).toArray.toList.map (·.1)).Perm ks:=by rw[List.toList_toArray,aUx qs hsq];exact hq2
 have hfin:d'.toList.map (·.1)=pL ks:=aS5 hpp (by rw[←hlen];exact s1) (by rw[←hlen];exact s2)
 simp only[go_sem]
 repeat' first|(refine gS ?_;simp only[go_sem])|refine gA ?_|(refine gD (fun h=>?_) (fun h=>?_)<;>try exact aA h)|fail
 have e1:dC d'=(pL ks).map AV.str:=by rw[←hfin,List.map_map];rfl
 have e2:ps.length=((pL ks).map AV.str).length:=by
  rw[←e1,bY,hlen]
  exact s1.1.symm
 rw[e1]
 exact jS (cs:=(pL ks).map AV.str) (es:=(pL ks).map AV.str) (rest:=[]) (by omega) (by simp only[go_sem]) (by rw[List.append_nil,aS4]) e2.symm (fun e he=>by obtain⟨x,_,rfl⟩:=List.mem_map.1 he;rfl) (fun e he=>by obtain⟨x,_,rfl⟩:=List.mem_map.1 he;exact .str _) rfl
theorem rising_c{es:List (AV×AV×Nat)}{clock:Nat}(ho:MpOk es clock)(i:Nat){ks:List Txt}(hk:es.map (·.1)=ks.map AV.str)(hs:SmL ks)(hl:es.length≤1073741824)(H:AHeap)(hm:hget H i=.map es clock):
  cJ Tryz.prog 62 [.map i] H (.sl false ((pL ks).map AV.str)):=by
 refine aL Tryz.func62 rfl (Nat.le_of_ble_eq_true rfl) ?_
 repeat' first|(refine gS ?_;simp only[go_sem])|refine gA ?_|(refine gD (fun h=>?_) (fun h=>?_)<;>try exact aA h)|fail
 refine aV (aV8 i H (bI hm trivial)) aPq ?_
 simp only[go_sem]
 refine aV (aS6 ho i hk hs hl H hm) aPp ?_
 simp only[go_sem]
 repeat' first|(refine gS ?_;simp only[go_sem])|refine gA ?_|(refine gD (fun h=>?_) (fun h=>?_)<;>try exact aA h)|fail
 exact aY (.sl _ _ fun e he=>by obtain⟨x,_,rfl⟩:=List.mem_map.1 he;exact .str _) (.refl _)
theorem seenN_len(l:List Nd)(dir:Int):(dE l dir).length≤l.length:=by
 have h:∀(k:List Nd) (m:List (Txt×Nd)),(k.foldl (mS dir) m).length≤m.length+k.length:=by
  intro k
  induction k with
  |nil=>exact fun m=>Nat.le_refl _
  |cons x k ih=>
   intro m
   have h1:=ih (mS dir m x)
   have hs:∀s (n:Nd) (m:List (Txt×Nd)),(hS s n m).length≤m.length+1:=fun s n m=>by
    induction m with
    |nil=>simp[hS]
    |cons q m ih=>obtain⟨k,y⟩:=q;unfold hS;split<;>simp;exact ih
   have h2:(mS dir m x).length≤m.length+1:=by
    unfold mS uM
    split
    ·split
     ·exact hs _ _ _
     ·split
      ·omega
      ·exact hs _ _ _
    ·omega
   rw[List.foldl_cons,List.length_cons]
   omega
 simpa[dE]using h l []
def SmN(l:List Nd):Prop:=∀n∈l,n.name.length≤1073741824
theorem smN_keys{l:List Nd}(h:SmN l)(dir:Int):SmL ((dE l dir).map (·.1)):=fun s hs=>by
 obtain⟨p,hp,rfl⟩:=List.mem_map.1 hs
 rw[←(oG l dir).2 p hp]
 exact h _ (aBM l dir p hp).1
theorem aVd(b:Bool)(l:List Nd)(dir:Int)(hl:l.length≤1073741824)(hn:SmN l)(H:AHeap):cJ Tryz.prog 127 [.sl b (l.map ndA),.int .i64 dir] H (.sl false ((xS l dir).map AV.str)):=by
 refine aL Tryz.func127 rfl (Nat.le_of_ble_eq_true rfl) ?_
 unfold xS
 cases hs:chk l with
 |false=>
  repeat' first|((first|refine cK (ct (bR _ _) aR) ?_|refine cP (ct (bR _ _) aR) ?_|refine cM (ct (bR _ _) aR) ?_|refine gS ?_);simp only[go_sem,hs])|refine gA ?_|(refine gD (fun h=>?_) (fun h=>?_)<;>try exact aA h)|fail
  exact aY (by simp only[go_sem]) (.sl _ _)
 |true=>
  rw[if_pos rfl]
  repeat' first|((first|refine cK (ct (bR _ _) aR) ?_|refine cP (ct (bR _ _) aR) ?_|refine cM (ct (bR _ _) aR) ?_|refine gS ?_);simp only[go_sem,hs])|refine gA ?_|(refine gD (fun h=>?_) (fun h=>?_)<;>try exact aA h)|fail
  refine bE (aJo b l dir hl H) aBA ?_
  rintro v H' ⟨rfl,rfl⟩
  simp only[go_sem]
  refine aV (rising_c (aQW _) H.length (aMP 0 _) (smN_keys hn dir) (by rw[aU6];have:=seenN_len l dir;omega) _ (jL H _)) aSJ ?_
  simp only[go_sem]
  repeat' first|(refine gS ?_;simp only[go_sem])|refine gA ?_|(refine gD (fun h=>?_) (fun h=>?_)<;>try exact aA h)|fail
  exact done (.sl _ _ fun e he=>by obtain⟨x,_,rfl⟩:=List.mem_map.1 he;exact .str _) (.refl _)
end Go.Proofs.YthhdnjiodklmmaaGreatDoor
