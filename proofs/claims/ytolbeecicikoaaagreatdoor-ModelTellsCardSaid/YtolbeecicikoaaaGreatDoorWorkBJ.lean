/- The texts 36 of 53 beneath the rows of this seat (joined by program): the abstract machine, and what the functions answer. No condition. -/
import Derived.Test.YtolbeecicikoaaaGreatDoorWorkBI
set_option linter.unusedSimpArgs false
set_option linter.unusedVariables false
set_option linter.unusedSectionVars false
set_option maxRecDepth 100000
set_option maxHeartbeats 16000000
namespace Go.Proofs.YtolbeecicikoaaaGreatDoor
theorem aBa(b:Nat)(m:List (Txt×Nd)):(pX b m).map (·.2.2)=List.range' b m.length:=by
 induction m generalizing b with
 |nil=>rfl
 |cons p m ih=>rw[pX,zAA,ih,zAm,List.range'_succ]
theorem aRA(m:List (Txt×Nd)):MpOk (pX 0 m) m.length where
 nd:=by rw[aBa];exact List.nodup_range'
 lt:=fun p hp=>by
  have:p.2.2∈(pX 0 m).map (·.2.2):=zAi.2 ⟨p,hp,rfl⟩
  rw[aBa]at this
  have:=List.mem_range'_1.1 this
  omega
theorem aVm(b:Nat)(m:List (Txt×Nd)):(pX b m).map (·.1)=(m.map (·.1)).map AV.str:=by
 induction m generalizing b with
 |nil=>rfl
 |cons p m ih=>rw[pX,zAA,ih];rfl
def unS:AV→Txt
 |.str s=>s
 |_=>[]
theorem aUx{xs:List AV}{ks:List Txt}(h:xs.Perm (ks.map AV.str)):∃qs:List Txt,xs=qs.map AV.str∧qs.Perm ks:=by
 refine⟨xs.map unS,?_,?_⟩
 ·rw[zCa]
  have hx:∀x∈xs,(AV.str∘unS) x=x:=fun x hx=>by
   obtain⟨s, -,rfl⟩:=zAi.1 (h.mem_iff.1 hx);rfl
  rw[zBM hx,List.map_id']
 ·have:=h.map unS
  rw[zCa]at this
  simpa[Function.comp_def,unS]using this
theorem xZ(l:List Txt):(l.map AV.str).flatMap AV.cells=l.map AV.str:=by rw[zCz];exact(List.map_eq_flatMap ..).symm
def SmL(l:List Txt):Prop:=∀s∈l,s.length≤1073741824
def aUy(l:List Txt)(h:SmL l):List iD:=l.attach.map fun s=>⟨s.1,h s.1 s.2⟩
theorem aUz(l:List Txt)(h:SmL l):(aUy l h).map (·.1)=l:=by
 unfold aUy
 rw[zCa]
 show l.attach.map (fun s=>s.1)=l
 exact List.attach_map_subtype_val l
theorem aS9{d d':Array iD}{ks:List Txt}(hp:(d.toList.map (·.1)).Perm ks)(h1:Sort.PermIn 0 d.size d d')(h2:Sort.SortedIn (fun a b=>kG a.1 b.1) 0 d.size d'):d'.toList.map (·.1)=oZ ks:=by
 obtain⟨e1, -,e3⟩:=h1
 have hx:∀(a:Array iD),a.extract 0 a.size=a:=fun a=>by simp
 rw[hx d]at e3
 rw[←e1,hx d']at e3
 refine tW ?_ ((e3.map _).trans hp)
 rw[List.pairwise_map,zBn]
 intro i j hi hj hij
 have hi':i<d'.size:=by simpa using hi
 have hj':j<d'.size:=by simpa using hj
 have:=h2 i j (zAn _) hij (by omega)
 simp only[getElem!_pos d' i hi',getElem!_pos d' j hj']at this
 simpa using this
theorem aIh{es:List (AV×AV×Nat)}{clock:Nat}(ho:MpOk es clock)(i:Nat)(hks:∀p∈es,∃s:Txt,p.1=.str s)(hl:es.length≤1073741824)(H:AHeap)(hm:hget H i=.map es clock):
  ACalls Tryz.prog 205 [.func (.func 207) [] [.cptr [.map i]]] H
   (fun r H'=>∃ps:List (AV×AV×Nat),ps.Perm es∧r=.osl 1 (H.length+1) (ps.length+1) 0 ps.length ps.length∧∃A,ClB (H.length+2) A∧H'=H++[A,.cells (ps.length+1) (ps.map (·.1))]):=by
 refine aQ Tryz.func205 ?_
 repeat' first|(refine gS ?_;simp only[go_sem])|refine gA ?_|(refine gD (fun h=>?_) (fun h=>?_)<;>try exact aA h)|fail
 refine aV (aLg ho i hks hl H hm) (cO) ?_
 rintro r H' ⟨ps,hp,rfl,A,hA,rfl⟩
 simp only[go_sem]
 repeat' first|(refine gS ?_;simp only[go_sem])|refine gA ?_|(refine gD (fun h=>?_) (fun h=>?_)<;>try exact aA h)|fail
 have q2:ClB (H.length+2) (.cells (ps.length+1) (ps.map (·.1))):=fun x hx=>by obtain⟨q,hq,rfl⟩:=zAi.1 hx;obtain⟨s,e⟩:=hks q (hp.mem_iff.1 hq);rw[e];exact .str _
 exact⟨H++[A,.cells (ps.length+1) (ps.map (·.1))],[],_,(zAg _).symm,by simp,by simpa using aPq hA q2,.cl _ (.osl _ _ _ _ _ _ (by simp)),ps,hp,rfl,A,hA,rfl⟩
theorem aVo:Sort.SWO (fun a b:iD=>kG a.1 b.1) where
 irrefl:=fun x=>kH.irrefl x.1
 trans:=fun x y z=>kH.trans x.1 y.1 z.1
 ntrans:=fun x y z=>kH.ntrans x.1 y.1 z.1
theorem aTa{es:List (AV×AV×Nat)}{clock:Nat}(ho:MpOk es clock)(i:Nat){ks:List Txt}(hk:es.map (·.1)=ks.map AV.str)(hs:SmL ks)(hl:es.length≤1073741824)(H:AHeap)(hm:hget H i=.map es clock):
  bD Tryz.prog 182 [.func (.func 207) [] [.cptr [.map i]],.func (.func 184) [] []] H (.sl false ((oZ ks).map AV.str)):=by
 refine fO Tryz.func182 ?_
 have hks:∀p∈es,∃s:Txt,p.1=.str s:=fun p hp=>by
  have:p.1∈ks.map AV.str:=hk▸zAi.2 ⟨p,hp,rfl⟩
  obtain⟨s, -,e⟩:=zAi.1 this
  exact⟨s,e.symm⟩
 repeat' first|(refine gS ?_;simp only[go_sem])|refine gA ?_|(refine gD (fun h=>?_) (fun h=>?_)<;>try exact aA h)|fail
 refine aV (aIh ho i hks hl H hm) (cO) ?_
 rintro r H' ⟨ps,hp,rfl,A,hA,rfl⟩
 -- the keys, in whatever order
 obtain⟨qs,hq1,hq2⟩:∃qs:List Txt,ps.map (·.1)=qs.map AV.str∧qs.Perm ks:=by
  have h1:(ps.map (·.1)).Perm (ks.map AV.str):=hk▸hp.map _
  exact aUx h1
 have hsq:SmL qs:=fun s h=>hs s (hq2.mem_iff.1 h)
 have hlen:ps.length=(aUy qs hsq).toArray.size:=by
  have:=zAp List.length hq1
  simp only[zAj]at this
  simp[aUy,this]
 have hd:ps.map (·.1)=dC (aUy qs hsq).toArray:=by
  unfold dC
  rw[hq1]
  conv=>lhs;rw[←aUz qs hsq]
  simp
 rw[hd]
 have hpl:=hp.length_eq
 simp only[go_sem]
 repeat' first|(refine gS ?_;simp only[go_sem])|refine gA ?_|(refine gD (fun h=>?_) (fun h=>?_)<;>try exact aA h)|fail
 refine aV (aVk aVo (fun x y=>aVl x.1 y.1) aRz hlen (by omega) _ (show hget (H++[A,.cells (ps.length+1) (dC (aUy qs hsq).toArray)]) (H.length+1)=_ from rA H _ 1)) (cO) ?_
 rintro r H' ⟨d',s1,s2,rfl,rfl⟩
 have hpp:((aUy qs hsq).toArray.toList.map (·.1)).Perm ks:=by rw[List.toList_toArray,aUz qs hsq];exact hq2
 have hfin:d'.toList.map (·.1)=oZ ks:=aS9 hpp (by rw[←hlen];exact s1) (by rw[←hlen];exact s2)
 simp only[go_sem]
 repeat' first|(refine gS ?_;simp only[go_sem])|refine gA ?_|(refine gD (fun h=>?_) (fun h=>?_)<;>try exact aA h)|fail
 have e1:dC d'=(oZ ks).map AV.str:=by rw[←hfin,zCa];rfl
 have e2:ps.length=((oZ ks).map AV.str).length:=by
  rw[←e1,bO,hlen]
  exact s1.1.symm
 rw[e1]
 exact fN (cs:=(oZ ks).map AV.str) (es:=(oZ ks).map AV.str) (rest:=[]) (by omega) (by simp only[go_sem]) (by rw[zAg,xZ]) e2.symm (fun e he=>by obtain⟨x,_,rfl⟩:=zAi.1 he;rfl) (fun e he=>by obtain⟨x,_,rfl⟩:=zAi.1 he;exact .str _) rfl
theorem rising_c{es:List (AV×AV×Nat)}{clock:Nat}(ho:MpOk es clock)(i:Nat){ks:List Txt}(hk:es.map (·.1)=ks.map AV.str)(hs:SmL ks)(hl:es.length≤1073741824)(H:AHeap)(hm:hget H i=.map es clock):
  bD Tryz.prog 154 [.map i] H (.sl false ((oZ ks).map AV.str)):=by
 refine fO Tryz.func154 ?_
 repeat' first|(refine gS ?_;simp only[go_sem])|refine gA ?_|(refine gD (fun h=>?_) (fun h=>?_)<;>try exact aA h)|fail
 refine aY (aWi i H (aU hm trivial)) (cO) ?_
 simp only[go_sem]
 refine aY (aTa ho i hk hs hl H hm) (cO) ?_
 simp only[go_sem]
 repeat' first|(refine gS ?_;simp only[go_sem])|refine gA ?_|(refine gD (fun h=>?_) (fun h=>?_)<;>try exact aA h)|fail
 exact aO6 (.sl _ _ fun e he=>by obtain⟨x,_,rfl⟩:=zAi.1 he;exact .str _) (.refl _)
theorem aTb(l:List Nd)(dir:Int):(cG l dir).length≤l.length:=by
 have h:∀(k:List Nd) (m:List (Txt×Nd)),(k.foldl (lV dir) m).length≤m.length+k.length:=by
  intro k
  induction k with
  |nil=>exact fun m=>zAh _
  |cons x k ih=>
   intro m
   have h1:=ih (lV dir m x)
   have hs:∀s (n:Nd) (m:List (Txt×Nd)),(gL s n m).length≤m.length+1:=fun s n m=>by
    induction m with
    |nil=>simp[gL]
    |cons q m ih=>obtain⟨k,y⟩:=q;unfold gL;split<;>simp;exact ih
   have h2:(lV dir m x).length≤m.length+1:=by
    unfold lV rL
    split
    ·split
     ·exact hs _ _ _
     ·split
      ·omega
      ·exact hs _ _ _
    ·omega
   rw[zAZ,zAm]
   omega
 simpa[cG]using h l []
def SmN(l:List Nd):Prop:=∀n∈l,n.name.length≤1073741824
theorem smN_keys{l:List Nd}(h:SmN l)(dir:Int):SmL ((cG l dir).map (·.1)):=fun s hs=>by
 obtain⟨p,hp,rfl⟩:=zAi.1 hs
 rw[←(jV l dir).2 p hp]
 exact h _ (aBP l dir p hp).1
theorem aVp(b:Bool)(l:List Nd)(dir:Int)(hl:l.length≤1073741824)(hn:SmN l)(H:AHeap):bD Tryz.prog 101 [.sl b (l.map ndA),.int .i64 dir] H (.sl false ((nJ l dir).map AV.str)):=by
 refine fO Tryz.func101 ?_
 unfold nJ
 cases hs:chk l with
 |false=>
  repeat' first|((first|refine gQ (jR _ _) ?_|refine gS ?_);simp only[go_sem,hs])|refine gA ?_|(refine gD (fun h=>?_) (fun h=>?_)<;>try exact aA h)|fail
  exact bL (.sl _ _)
 |true=>
  rw[zAc rfl]
  repeat' first|((first|refine gQ (jR _ _) ?_|refine gS ?_);simp only[go_sem,hs])|refine gA ?_|(refine gD (fun h=>?_) (fun h=>?_)<;>try exact aA h)|fail
  refine aV (aJ0 b l dir hl H) (cO) ?_
  rintro v H' ⟨rfl,rfl⟩
  simp only[go_sem]
  refine aY (rising_c (aRA _) H.length (aVm 0 _) (smN_keys hn dir) (by rw[aVc];have:=aTb l dir;omega) _ (jO H _)) (cO) ?_
  simp only[go_sem]
  repeat' first|(refine gS ?_;simp only[go_sem])|refine gA ?_|(refine gD (fun h=>?_) (fun h=>?_)<;>try exact aA h)|fail
  exact done (.sl _ _ fun e he=>by obtain⟨x,_,rfl⟩:=zAi.1 he;exact .str _) (.refl _)
end Go.Proofs.YtolbeecicikoaaaGreatDoor
namespace Go.Proofs.YtolbeecicikoaaaGreatDoor
structure OutOk (xs:List Int) (es:List (AV×AV×Nat)):Prop where
 ki:keysIn (.int .i64) es
 at_:∀x:Int,(keyAt (.int .i64 x) es).map (·.2)=if x∈xs then some (.bool true)else none
 cl:∀n,∀p∈es,Cl n p.1∧Cl n p.2.1
theorem out_nil:OutOk [] []:=⟨fun p hp=>(by cases hp),fun x=>rfl,fun n p hp=>(by cases hp)⟩
theorem putKey_at(y:Int)(clock:Nat):∀(es:List (AV×AV×Nat)),keysIn (.int .i64) es→keysIn (.int .i64) (iX (.int .i64 y) (.bool true) es clock)∧
  (∀x:Int,(keyAt (.int .i64 x) (iX (.int .i64 y) (.bool true) es clock)).map (·.2)=if x=y then some (.bool true)else(keyAt (.int .i64 x) es).map (·.2)):=by
 intro es
 induction es with
 |nil=>
  intro _
  refine⟨fun p hp=>?_,fun x=>?_⟩
  ·simp only[iX,keyAt,zAG,zAx]at hp
   subst hp;rfl
  grind [iX,keyAt,zAG,zAx,mX]
 |cons q es ih=>
  obtain⟨k,w,b⟩:=q
  intro hk
  have hk0:aHc (.int .i64) k=true:=hk (k,w,b) (by simp)
  have hk1:keysIn (.int .i64) es:=fun p hp=>hk p (zAP _ hp)
  cases k<;>simp only[aHc,zAw]at hk0
  rename_i kk z
  rw[zAr]at hk0
  subst hk0
  by_cases hyz:y=z
  ·subst hyz
   have e:iX (.int .i64 y) (.bool true) ((AV.int .i64 y,w,b)::es) clock=(.int .i64 y,.bool true,b)::es:=by simp[iX,keyAt,mX]
   rw[e]
   refine⟨fun p hp=>?_,fun x=>?_⟩
   ·rcases zAv.1 hp with rfl|hp
    ·rfl
    ·exact hk1 p hp
   ·simp only[keyAt,mX]
    by_cases h:x=y<;>simp[h]
  ·have hne:mX (.int .i64 y) (.int .i64 z)=false:=by simp[mX,hyz]
   rw[Go.Proofs.YtolbeecicikoaaaGreatDoor.yS hne]
   obtain⟨i1,i2⟩:=ih hk1
   refine⟨fun p hp=>?_,fun x=>?_⟩
   ·rcases zAv.1 hp with rfl|hp
    ·rfl
    ·exact i1 p hp
   ·have:=i2 x
    simp only[keyAt,mX]
    by_cases h:x=z
    ·subst h
     have hxy:¬x=y:=fun e=>hyz e.symm
     simp[hxy]
    ·simp only[eT h,zCj,Option.map_map]
     by_cases hxy:x=y
     ·rw[zAc hxy]at this ⊢
      cases hkk:keyAt (.int .i64 x) (iX (.int .i64 y) (.bool true) es clock)with
      |none=>rw[hkk]at this;cases this
      |some v=>rw[hkk]at this;simpa using this
     ·rw[zAb hxy]at this ⊢
      cases hkk:keyAt (.int .i64 x) (iX (.int .i64 y) (.bool true) es clock)with
      |none=>rw[hkk]at this;cases hk2:keyAt (.int .i64 x) es with
       |none=>rfl
       |some v=>rw[hk2]at this;cases this
      |some v=>rw[hkk]at this;cases hk2:keyAt (.int .i64 x) es with
       |none=>rw[hk2]at this;cases this
       |some u=>rw[hk2]at this;simpa using this
theorem aTc{n:Nat}{x v:AV}(hx:Cl n x)(hv:Cl n v){es:List (AV×AV×Nat)}(h:∀p∈es,Cl n p.1∧Cl n p.2.1)(clock:Nat):∀p∈iX x v es clock,Cl n p.1∧Cl n p.2.1:=by
 grind [iX,List.mem_iff_getElem?]
theorem out_put{xs:List Int}{es:List (AV×AV×Nat)}(h:OutOk xs es)(y:Int)(clock:Nat):OutOk (xs++[y]) (iX (.int .i64 y) (.bool true) es clock):=by
 obtain⟨i1,i2⟩:=putKey_at y clock es h.ki
 refine⟨i1,fun x=>?_,fun n=>aTc (.int _ _) (.bool _) (h.cl n) clock⟩
 rw[i2,h.at_]
 grind
structure StrK (es:List (AV×AV×Nat)):Prop where
 ki:keysIn .string es
 nd:(es.map (·.1)).Nodup
theorem StrK.filter{es:List (AV×AV×Nat)}(h:StrK es)(f:AV×AV×Nat→Bool):StrK (es.filter f):=
 ⟨fun p hp=>h.ki p (zBi.1 hp).1,List.Nodup.sublist (List.Sublist.map _ List.filter_sublist) h.nd⟩
theorem StrK.at_{es:List (AV×AV×Nat)}(h:StrK es){p:AV×AV×Nat}(hp:p∈es){s:List UInt8}(hs:p.1=.str s):∃j,keyAt (.str s) es=some (j,p.2.1)∧es[j]?=some p:=by
 obtain⟨hk,hn⟩:=h
 induction es with
 |nil=>cases hp
 |cons q es ih=>
  obtain⟨k,w,b⟩:=q
  rw[zAA,zCF]at hn
  have hk0:aHc .string k=true:=hk (k,w,b) (by simp)
  cases k<;>simp only[aHc,zAw]at hk0
  rename_i t
  rcases zAv.1 hp with rfl|hp'
  ·simp only at hs
   cases hs
   simp[keyAt,mX]
  ·have hne:¬s=t:=fun e=>hn.1 (by subst e;rw[←hs];exact zAi.2 ⟨p,hp',rfl⟩)
   obtain⟨j,h1,h2⟩:=ih hp' (fun p hp=>hk p (zAP _ hp)) hn.2
   exact⟨j+1,by simp[keyAt,mX,hne,h1],by simpa using h2⟩
theorem erase_filter{α β:Type}[BEq β][LawfulBEq β](f:α→β):∀(l:List α) (j:Nat) (p:α),(l.map f).Nodup→l[j]?=some p→l.eraseIdx j=l.filter (fun q=> !(f q==f p)):=by
 intro l
 induction l with
 |nil=>intro j p _ h;cases h
 |cons x l ih=>
  intro j p hn h
  rw[zAA,zCF]at hn
  cases j with
  |zero=>
   cases h
   rw[List.eraseIdx_cons_zero,zBA,zAb (by simp)]
   symm
   rw[List.filter_eq_self]
   grind
  |succ j=>
   rw[zBW]at h
   rw[List.eraseIdx_cons_succ,zBA,zAc,ih j p hn.2 h]
   simp only[zBc,beq_eq_false_iff_ne]
   intro e
   exact hn.1 (e▸zAi.2 ⟨p,zAL h,rfl⟩)
theorem del_filter{es:List (AV×AV×Nat)}{clock:Nat}(h:StrK es)(ho:MpOk es clock){p:AV×AV×Nat}(hp:p∈es){s:List UInt8}(hs:p.1=.str s):delKey (.str s) es=es.filter fun q=> !(q.2.2==p.2.2):=by
 obtain⟨j,h1,h2⟩:=h.at_ hp hs
 unfold delKey
 rw[h1]
 exact erase_filter (fun q:AV×AV×Nat=>q.2.2) es j p ho.nd h2
def lessE(es:List (AV×AV×Nat))(o:AV×AV×Nat→Bool)(ps:List (AV×AV×Nat)):List (AV×AV×Nat):=es.filter fun q=> !((ps.map (·.2.2)).contains q.2.2&&o q)
theorem lessE_nil(es:List (AV×AV×Nat))(o:AV×AV×Nat→Bool):lessE es o []=es:=by
 unfold lessE;rw[List.filter_eq_self];intro q _;simp
theorem same_birth{es:List (AV×AV×Nat)}{clock:Nat}(ho:MpOk es clock){p q:AV×AV×Nat}(hp:p∈es)(hq:q∈es)(e:q.2.2=p.2.2):q=p:=by
 have e1:=ho.find hp
 have e2:=ho.find hq
 rw[e,e1]at e2
 cases e2;rfl
theorem lessE_yes{es:List (AV×AV×Nat)}{clock:Nat}(ho:MpOk es clock){o:AV×AV×Nat→Bool}{ps:List (AV×AV×Nat)}{p:AV×AV×Nat}(hp:p∈es)(h:o p=true):lessE es o (ps++[p])=(lessE es o ps).filter fun q=> !(q.2.2==p.2.2):=by
 unfold lessE
 rw[List.filter_filter]
 refine List.filter_congr fun q hq=>?_
 simp only[zBa,zAA,zBx]
 by_cases e:q.2.2=p.2.2
 ·have:=same_birth ho hp hq e
  subst this
  simp[h]
 ·grind
theorem lessE_no{es:List (AV×AV×Nat)}{clock:Nat}(ho:MpOk es clock){o:AV×AV×Nat→Bool}{ps:List (AV×AV×Nat)}{p:AV×AV×Nat}(hp:p∈es)(h:o p=false):lessE es o (ps++[p])=lessE es o ps:=by
 unfold lessE
 refine List.filter_congr fun q hq=>?_
 simp only[zBa,zAA,zBx]
 by_cases e:q.2.2=p.2.2
 ·have:=same_birth ho hp hq e
  subst this
  simp[h]
 ·grind
theorem lessE_left{es:List (AV×AV×Nat)}{o:AV×AV×Nat→Bool}{ps:List (AV×AV×Nat)}:aEC (lessE es o ps) (ps.map (·.2.2))=aEC es (ps.map (·.2.2)):=by
 unfold aEC lessE
 rw[List.filter_filter]
 refine List.filter_congr fun q hq=>?_
 cases(ps.map (·.2.2)).contains q.2.2<;>simp
theorem lessE_end{es ps:List (AV×AV×Nat)}{o:AV×AV×Nat→Bool}(h:ps.Perm es):lessE es o ps=es.filter fun q=> !o q:=by
 unfold lessE
 refine List.filter_congr fun q hq=>?_
 have:(ps.map (·.2.2)).contains q.2.2=true:=by
  rw[zB5]
  exact zAi.2 ⟨q,h.mem_iff.2 hq,rfl⟩
 rw[this,zAB]
def outQ(xs:List Int)(q:AV×AV×Nat):Bool:=match q.2.1 with
 |.agg (.int _ i::_)=>xs.contains i
 |_=>false
theorem aUA{m:List (Txt×Nd)}(h:(m.map (·.1)).Nodup):StrK (pX 0 m) where
 ki:=aDA 0 m
 nd:=by
  rw[aVm]
  induction m with
  |nil=>exact List.nodup_nil
  |cons p m ih=>
   rw[zAA,zCF]at h
   rw[zAA,zAA,zCF]
   refine⟨fun hx=>?_,ih h.2⟩
   obtain⟨s,hs,e⟩:=zAi.1 hx
   cases e
   exact h.1 hs
theorem nmE_out(xs:List Int):∀(b:Nat) (m:List (Txt×Nd)),((pX b m).filter fun q=> !outQ xs q).map (·.1)=((m.filter fun p=> !xs.contains p.2.id).map (·.1)).map AV.str:=by
 intro b m
 induction m generalizing b with
 |nil=>rfl
 |cons p m ih=>
  have e:outQ xs (AV.str p.1,ndA p.2,b)=xs.contains p.2.id:=rfl
  rw[pX,zBA,zBA,e]
  split
  ·rw[zAA,ih];rfl
  ·exact ih _
theorem nmE_mem{b:Nat}{m:List (Txt×Nd)}{q:AV×AV×Nat}(h:q∈pX b m):∃p∈m,q.1=.str p.1∧q.2.1=ndA p.2:=by
 induction m generalizing b with
 |nil=>cases h
 |cons p m ih=>
  rcases zAv.1 h with rfl|h
  ·exact⟨p,by simp,rfl,rfl⟩
  ·obtain⟨r,hr,e⟩:=ih h;exact⟨r,zAP _ hr,e⟩
theorem mem_nmE{b:Nat}{m:List (Txt×Nd)}{p:Txt×Nd}(h:p∈m):∃k,(AV.str p.1,ndA p.2,k)∈pX b m:=by
 induction m generalizing b with
 |nil=>cases h
 |cons x m ih=>
  rcases zAv.1 h with rfl|h
  ·exact⟨b,by simp[pX]⟩
  ·obtain⟨k,hk⟩:=ih (b:=b+1) h;exact⟨k,zAP _ hk⟩
end Go.Proofs.YtolbeecicikoaaaGreatDoor
