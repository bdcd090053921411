/- What the functions of this seat answer (25 of 38). No condition. -/
import Derived.Test.YtennnelammaapaaGreatDoorWorkAX
set_option linter.unusedSimpArgs false
set_option linter.unusedVariables false
set_option maxRecDepth 100000
set_option maxHeartbeats 16000000
namespace Go.Proofs.YtennnelammaapaaGreatDoor
section
theorem aBu(b:Nat)(m:List (Txt×Nd)):(pV b m).map (·.2.2)=List.range' b m.length:=by
 induction m generalizing b with
 |nil=>rfl
 |cons p m ih=>rw[pV,zAw,ih,zAc,List.range'_succ]
theorem aSK(m:List (Txt×Nd)):MpOk (pV 0 m) m.length where
 nd:=by rw[aBu];exact List.nodup_range'
 lt:=fun p hp=>by
  have:p.2.2∈(pV 0 m).map (·.2.2):=zAm.2 ⟨p,hp,rfl⟩;rw[aBu]at this;have:=List.mem_range'_1.1 this;omega
theorem aWS(b:Nat)(m:List (Txt×Nd)):(pV b m).map (·.1)=(m.map (·.1)).map AV.str:=by
 induction m generalizing b with
 |nil=>rfl
 |cons p m ih=>rw[pV,zAw,ih];rfl
def unS:AV→Txt
 |.str s=>s
 |_=>[]
theorem aVW{xs:List AV}{ks:List Txt}(h:xs.Perm (ks.map AV.str)):∃qs:List Txt,xs=qs.map AV.str∧qs.Perm ks:=by
 refine⟨xs.map unS,?_,?_⟩
 ·rw[zB1];have hx:∀x∈xs,(AV.str∘unS) x=x:=fun x hx=>by
   obtain⟨s, -,rfl⟩:=zAm.1 (h.mem_iff.1 hx);rfl
  rw[List.map_congr_left hx,List.map_id']
 ·have:=h.map unS;rw[zB1]at this;simpa[Function.comp_def,unS]using this
theorem aUu(l:List Txt):(l.map AV.str).flatMap AV.cells=l.map AV.str:=by rw[List.flatMap_map];exact(List.map_eq_flatMap ..).symm
def SmL(l:List Txt):Prop:=∀s∈l,s.length≤1073741824
def aVX(l:List Txt)(h:SmL l):List gJ:=l.attach.map fun s=>⟨s.1,h s.1 s.2⟩
theorem aVY(l:List Txt)(h:SmL l):(aVX l h).map (·.1)=l:=by
 unfold aVX;rw[zB1];show l.attach.map (fun s=>s.1)=l
 exact List.attach_map_subtype_val l
theorem aUv{d d':Array gJ}{ks:List Txt}(hp:(d.toList.map (·.1)).Perm ks)(h1:Sort.PermIn 0 d.size d d')(h2:Sort.SortedIn (fun a b=>ltN a.1 b.1) 0 d.size d'):d'.toList.map (·.1)=zG ks:=by
 obtain⟨e1, -,e3⟩:=h1;have hx:∀(a:Array gJ),a.extract 0 a.size=a:=fun a=>by simp
 rw[hx d]at e3;rw[←e1,hx d']at e3;refine aFy ?_ ((e3.map _).trans hp);rw[List.pairwise_map,zBR];intro i j hi hj hij;have hi':i<d'.size:=by simpa using hi
 have hj':j<d'.size:=by simpa using hj
 have:=h2 i j (zAo _) hij (by omega)
 simp only[getElem!_pos d' i hi',getElem!_pos d' j hj']at this;simpa using this
theorem aIS{es:List (AV×AV×Nat)}{clock:Nat}(ho:MpOk es clock)(i:Nat)(hks:∀p∈es,∃s:Txt,p.1=.str s)(hl:es.length≤1073741824)(H:AHeap)(hm:hget H i=.map es clock):
  ACalls Tryz.prog 216 [.func (.func 218) [] [.cptr [.map i]]] H
   (fun r H'=>∃ps:List (AV×AV×Nat),ps.Perm es∧r=.osl 1 (H.length+1) (ps.length+1) 0 ps.length ps.length∧∃A,ClB (H.length+2) A∧H'=H++[A,.cells (ps.length+1) (ps.map (·.1))]):=by
 refine aQ Tryz.func216 ?_;repeat' first|(refine gS ?_;simp only[go_sem])|refine gA ?_|(refine gD ?_ ?_<;>intro h<;>try exact aA h)|fail
 refine aR (aLJ ho i hks hl H hm) (cO) ?_;rintro r H' ⟨ps,hp,rfl,A,hA,rfl⟩;simp only[go_sem];repeat' first|(refine gS ?_;simp only[go_sem])|refine gA ?_|(refine gD ?_ ?_<;>intro h<;>try exact aA h)|fail
 have q2:ClB (H.length+2) (.cells (ps.length+1) (ps.map (·.1))):=fun x hx=>by obtain⟨q,hq,rfl⟩:=zAm.1 hx;obtain⟨s,e⟩:=hks q (hp.mem_iff.1 hq);rw[e];exact .str _
 exact⟨H++[A,.cells (ps.length+1) (ps.map (·.1))],[],_,(zAd _).symm,by simp,by simpa using aQG hA q2,.cl _ (.osl _ _ _ _ _ _ (by simp)),ps,hp,rfl,A,hA,rfl⟩
theorem aWU:Sort.SWO (fun a b:gJ=>ltN a.1 b.1) where
 irrefl:=fun x=>tC.irrefl x.1
 trans:=fun x y z=>tC.trans x.1 y.1 z.1
 ntrans:=fun x y z=>tC.ntrans x.1 y.1 z.1
theorem aUw{es:List (AV×AV×Nat)}{clock:Nat}(ho:MpOk es clock)(i:Nat){ks:List Txt}(hk:es.map (·.1)=ks.map AV.str)(hs:SmL ks)(hl:es.length≤1073741824)(H:AHeap)(hm:hget H i=.map es clock):
  bH Tryz.prog 201 [.func (.func 218) [] [.cptr [.map i]],.func (.func 203) [] []] H (.sl false ((zG ks).map AV.str)):=by
 refine fO Tryz.func201 ?_;have hks:∀p∈es,∃s:Txt,p.1=.str s:=fun p hp=>by
  have:p.1∈ks.map AV.str:=hk▸zAm.2 ⟨p,hp,rfl⟩;obtain⟨s, -,e⟩:=zAm.1 this;exact⟨s,e.symm⟩
 repeat' first|(refine gS ?_;simp only[go_sem])|refine gA ?_|(refine gD ?_ ?_<;>intro h<;>try exact aA h)|fail
 refine aR (aIS ho i hks hl H hm) (cO) ?_;rintro r H' ⟨ps,hp,rfl,A,hA,rfl⟩
 -- the keys, in whatever order
 obtain⟨qs,hq1,hq2⟩:∃qs:List Txt,ps.map (·.1)=qs.map AV.str∧qs.Perm ks:=by
  have h1:(ps.map (·.1)).Perm (ks.map AV.str):=hk▸hp.map _;exact aVW h1
 have hsq:SmL qs:=fun s h=>hs s (hq2.mem_iff.1 h)
 have hlen:ps.length=(aVX qs hsq).toArray.size:=by
  have:=zAx List.length hq1;simp only[zAn]at this;simp[aVX,this]
 have hd:ps.map (·.1)=dC (aVX qs hsq).toArray:=by
  unfold dC;rw[hq1];conv=>lhs;rw[←aVY qs hsq]
  simp
 rw[hd];have hpl:=hp.length_eq;simp only[go_sem];repeat' first|(refine gS ?_;simp only[go_sem])|refine gA ?_|(refine gD ?_ ?_<;>intro h<;>try exact aA h)|fail
 refine aR (aWQ aWU (fun x y=>aWR x.1 y.1) aSJ hlen (by omega) _ (show hget (H++[A,.cells (ps.length+1) (dC (aVX qs hsq).toArray)]) (H.length+1)=_ from qZ H _ 1)) (cO) ?_
 rintro r H' ⟨d',s1,s2,rfl,rfl⟩;have hpp:((aVX qs hsq).toArray.toList.map (·.1)).Perm ks:=by rw[List.toList_toArray,aVY qs hsq];exact hq2
 have hfin:d'.toList.map (·.1)=zG ks:=aUv hpp (by rw[←hlen];exact s1) (by rw[←hlen];exact s2)
 simp only[go_sem];repeat' first|(refine gS ?_;simp only[go_sem])|refine gA ?_|(refine gD ?_ ?_<;>intro h<;>try exact aA h)|fail
 have e1:dC d'=(zG ks).map AV.str:=by rw[←hfin,zB1];rfl
 have e2:ps.length=((zG ks).map AV.str).length:=by
  rw[←e1,bR,hlen];exact s1.1.symm
 rw[e1];exact iU (cs:=(zG ks).map AV.str) (es:=(zG ks).map AV.str) (rest:=[]) (by omega) (by simp only[go_sem]) (by rw[zAd,aUu]) e2.symm (fun e he=>by obtain⟨x,_,rfl⟩:=zAm.1 he;rfl) (fun e he=>by obtain⟨x,_,rfl⟩:=zAm.1 he;exact .str _) rfl
theorem rising_c{es:List (AV×AV×Nat)}{clock:Nat}(ho:MpOk es clock)(i:Nat){ks:List Txt}(hk:es.map (·.1)=ks.map AV.str)(hs:SmL ks)(hl:es.length≤1073741824)(H:AHeap)(hm:hget H i=.map es clock):
  bH Tryz.prog 187 [.map i] H (.sl false ((zG ks).map AV.str)):=by
 refine fO Tryz.func187 ?_;repeat' first|(refine gS ?_;simp only[go_sem])|refine gA ?_|(refine gD ?_ ?_<;>intro h<;>try exact aA h)|fail
 refine aZ (aXZ i H (aV hm trivial)) (cO) ?_;simp only[go_sem];refine aZ (aUw ho i hk hs hl H hm) (cO) ?_;simp only[go_sem];repeat' first|(refine gS ?_;simp only[go_sem])|refine gA ?_|(refine gD ?_ ?_<;>intro h<;>try exact aA h)|fail
 exact aB1 (.sl _ _ fun e he=>by obtain⟨x,_,rfl⟩:=zAm.1 he;exact .str _) (.refl _)
theorem aUx(l:List Nd)(dir:Int):(dD l dir).length≤l.length:=by
 have h:∀(k:List Nd) (m:List (Txt×Nd)),(k.foldl (qV dir) m).length≤m.length+k.length:=by
  intro k;induction k with
  |nil=>exact fun m=>zAf _
  |cons x k ih=>
   intro m;have h1:=ih (qV dir m x);have hs:∀s (n:Nd) (m:List (Txt×Nd)),(iR s n m).length≤m.length+1:=fun s n m=>by
    induction m with
    |nil=>simp[iR]
    |cons q m ih=>obtain⟨k,y⟩:=q;unfold iR;split<;>simp;exact ih
   have h2:(qV dir m x).length≤m.length+1:=by
    unfold qV xO;split
    ·split
     ·exact hs _ _ _
     ·split
      ·omega
      ·exact hs _ _ _
    ·omega
   rw[zBy,zAc];omega
 simpa[dD]using h l []
def SmN(l:List Nd):Prop:=∀n∈l,n.name.length≤1073741824
theorem smN_keys{l:List Nd}(h:SmN l)(dir:Int):SmL ((dD l dir).map (·.1)):=fun s hs=>by
 obtain⟨p,hp,rfl⟩:=zAm.1 hs;rw[←(xU l dir).2 p hp];exact h _ (aCh l dir p hp).1
theorem vlist_c(b:Bool)(l:List Nd)(dir:Int)(hl:l.length≤1073741824)(hn:SmN l)(H:AHeap):bH Tryz.prog 156 [.sl b (l.map ndA),.int .i64 dir] H (.sl false ((aKG l dir).map AV.str)):=by
 refine fO Tryz.func156 ?_;unfold aKG;cases hs:chk l with
 |false=>
  repeat' first|((first|refine gQ (jK _ _) ?_|refine gS ?_);simp only[go_sem,hs])|refine gA ?_|(refine gD ?_ ?_<;>intro h<;>try exact aA h)|fail
  exact cL (.sl _ _)
 |true=>
  rw[zAl rfl];repeat' first|((first|refine gQ (jK _ _) ?_|refine gS ?_);simp only[go_sem,hs])|refine gA ?_|(refine gD ?_ ?_<;>intro h<;>try exact aA h)|fail
  refine aR (aKB b l dir hl H) (cO) ?_;rintro v H' ⟨rfl,rfl⟩;simp only[go_sem];refine aZ (rising_c (aSK _) H.length (aWS 0 _) (smN_keys hn dir) (by rw[aWK];have:=aUx l dir;omega) _ (eZ H _)) (cO) ?_
  simp only[go_sem];repeat' first|(refine gS ?_;simp only[go_sem])|refine gA ?_|(refine gD ?_ ?_<;>intro h<;>try exact aA h)|fail
  exact done (.sl _ _ fun e he=>by obtain⟨x,_,rfl⟩:=zAm.1 he;exact .str _) (.refl _)
end
section
structure OutOk (xs:List Int) (es:List (AV×AV×Nat)):Prop where
 ki:keysIn (.int .i64) es
 at_:∀x:Int,(keyAt (.int .i64 x) es).map (·.2)=if x∈xs then some (.bool true)else none
 cl:∀n,∀p∈es,Cl n p.1∧Cl n p.2.1
theorem out_nil:OutOk [] []:=⟨fun p hp=>(by cases hp),fun x=>rfl,fun n p hp=>(by cases hp)⟩
theorem putKey_at(y:Int)(clock:Nat):∀(es:List (AV×AV×Nat)),keysIn (.int .i64) es→keysIn (.int .i64) (eO (.int .i64 y) (.bool true) es clock)∧
  (∀x:Int,(keyAt (.int .i64 x) (eO (.int .i64 y) (.bool true) es clock)).map (·.2)=if x=y then some (.bool true)else(keyAt (.int .i64 x) es).map (·.2)):=by
 intro es;induction es with
 |nil=>
  intro _;refine⟨fun p hp=>?_,fun x=>?_⟩
  ·simp only[eO,keyAt,zAW,zAq]at hp;subst hp;rfl
  grind [eO,keyAt,zAW,zAq,mF]
 |cons q es ih=>
  obtain⟨k,w,b⟩:=q;intro hk;have hk0:aHR (.int .i64) k=true:=hk (k,w,b) (by simp)
  have hk1:keysIn (.int .i64) es:=fun p hp=>hk p (zAR _ hp)
  cases k<;>simp only[aHR,zAz]at hk0;rename_i kk z;rw[zAF]at hk0;subst hk0;by_cases hyz:y=z
  ·subst hyz;have e:eO (.int .i64 y) (.bool true) ((AV.int .i64 y,w,b)::es) clock=(.int .i64 y,.bool true,b)::es:=by simp[eO,keyAt,mF]
   rw[e];refine⟨fun p hp=>?_,fun x=>?_⟩
   ·rcases zAs.1 hp with rfl|hp
    ·rfl
    ·exact hk1 p hp
   ·simp only[keyAt,mF];by_cases h:x=y<;>simp[h]
  ·have hne:mF (.int .i64 y) (.int .i64 z)=false:=by simp[mF,hyz]
   rw[Go.Proofs.YtennnelammaapaaGreatDoor.zE hne];obtain⟨i1,i2⟩:=ih hk1;refine⟨fun p hp=>?_,fun x=>?_⟩
   ·rcases zAs.1 hp with rfl|hp
    ·rfl
    ·exact i1 p hp
   ·have:=i2 x;simp only[keyAt,mF];by_cases h:x=z
    ·subst h;have hxy:¬x=y:=fun e=>hyz e.symm
     simp[hxy]
    ·simp only[zAg h,zCn,Option.map_map];by_cases hxy:x=y
     ·rw[zAl hxy]at this ⊢;cases hkk:keyAt (.int .i64 x) (eO (.int .i64 y) (.bool true) es clock)with
      |none=>rw[hkk]at this;cases this
      |some v=>rw[hkk]at this;simpa using this
     ·rw[zAe hxy]at this ⊢;cases hkk:keyAt (.int .i64 x) (eO (.int .i64 y) (.bool true) es clock)with
      |none=>rw[hkk]at this;cases hk2:keyAt (.int .i64 x) es with
       |none=>rfl
       |some v=>rw[hk2]at this;cases this
      |some v=>rw[hkk]at this;cases hk2:keyAt (.int .i64 x) es with
       |none=>rw[hk2]at this;cases this
       |some u=>rw[hk2]at this;simpa using this
theorem aUy{n:Nat}{x v:AV}(hx:Cl n x)(hv:Cl n v){es:List (AV×AV×Nat)}(h:∀p∈es,Cl n p.1∧Cl n p.2.1)(clock:Nat):∀p∈eO x v es clock,Cl n p.1∧Cl n p.2.1:=by
 grind [eO,List.mem_iff_getElem?]
theorem out_put{xs:List Int}{es:List (AV×AV×Nat)}(h:OutOk xs es)(y:Int)(clock:Nat):OutOk (xs++[y]) (eO (.int .i64 y) (.bool true) es clock):=by
 obtain⟨i1,i2⟩:=putKey_at y clock es h.ki;refine⟨i1,fun x=>?_,fun n=>aUy (.int _ _) (.bool _) (h.cl n) clock⟩
 rw[i2,h.at_];grind
structure StrK (es:List (AV×AV×Nat)):Prop where
 ki:keysIn .string es
 nd:(es.map (·.1)).Nodup
theorem StrK.filter{es:List (AV×AV×Nat)}(h:StrK es)(f:AV×AV×Nat→Bool):StrK (es.filter f):=
 ⟨fun p hp=>h.ki p (zBb.1 hp).1,List.Nodup.sublist (List.Sublist.map _ List.filter_sublist) h.nd⟩
theorem StrK.at_{es:List (AV×AV×Nat)}(h:StrK es){p:AV×AV×Nat}(hp:p∈es){s:List UInt8}(hs:p.1=.str s):∃j,keyAt (.str s) es=some (j,p.2.1)∧es[j]?=some p:=by
 obtain⟨hk,hn⟩:=h;induction es with
 |nil=>cases hp
 |cons q es ih=>
  obtain⟨k,w,b⟩:=q;rw[zAw,zB8]at hn;have hk0:aHR .string k=true:=hk (k,w,b) (by simp)
  cases k<;>simp only[aHR,zAz]at hk0;rename_i t;rcases zAs.1 hp with rfl|hp'
  ·simp only at hs;cases hs;simp[keyAt,mF]
  ·have hne:¬s=t:=fun e=>hn.1 (by subst e;rw[←hs];exact zAm.2 ⟨p,hp',rfl⟩)
   obtain⟨j,h1,h2⟩:=ih hp' (fun p hp=>hk p (zAR _ hp)) hn.2
   exact⟨j+1,by simp[keyAt,mF,hne,h1],by simpa using h2⟩
theorem erase_filter{α β:Type}[BEq β][LawfulBEq β](f:α→β):∀(l:List α) (j:Nat) (p:α),(l.map f).Nodup→l[j]?=some p→l.eraseIdx j=l.filter (fun q=> !(f q==f p)):=by
 intro l;induction l with
 |nil=>intro j p _ h;cases h
 |cons x l ih=>
  intro j p hn h;rw[zAw,zB8]at hn;cases j with
  |zero=>
   cases h;rw[List.eraseIdx_cons_zero,zA5,zAe (by simp)]
   symm
   rw[List.filter_eq_self];grind
  |succ j=>
   rw[zB0]at h;rw[List.eraseIdx_cons_succ,zA5,zAl,ih j p hn.2 h];simp only[zA4,beq_eq_false_iff_ne];intro e;exact hn.1 (e▸zAm.2 ⟨p,zAp h,rfl⟩)
theorem del_filter{es:List (AV×AV×Nat)}{clock:Nat}(h:StrK es)(ho:MpOk es clock){p:AV×AV×Nat}(hp:p∈es){s:List UInt8}(hs:p.1=.str s):delKey (.str s) es=es.filter fun q=> !(q.2.2==p.2.2):=by
 obtain⟨j,h1,h2⟩:=h.at_ hp hs;unfold delKey;rw[h1];exact erase_filter (fun q:AV×AV×Nat=>q.2.2) es j p ho.nd h2
def lessE(es:List (AV×AV×Nat))(o:AV×AV×Nat→Bool)(ps:List (AV×AV×Nat)):List (AV×AV×Nat):=es.filter fun q=> !((ps.map (·.2.2)).contains q.2.2&&o q)
theorem lessE_nil(es:List (AV×AV×Nat))(o:AV×AV×Nat→Bool):lessE es o []=es:=by
 unfold lessE;rw[List.filter_eq_self];intro q _;simp
theorem same_birth{es:List (AV×AV×Nat)}{clock:Nat}(ho:MpOk es clock){p q:AV×AV×Nat}(hp:p∈es)(hq:q∈es)(e:q.2.2=p.2.2):q=p:=by
 have e1:=ho.find hp;have e2:=ho.find hq;rw[e,e1]at e2;cases e2;rfl
theorem lessE_yes{es:List (AV×AV×Nat)}{clock:Nat}(ho:MpOk es clock){o:AV×AV×Nat→Bool}{ps:List (AV×AV×Nat)}{p:AV×AV×Nat}(hp:p∈es)(h:o p=true):lessE es o (ps++[p])=(lessE es o ps).filter fun q=> !(q.2.2==p.2.2):=by
 unfold lessE;rw[List.filter_filter];refine List.filter_congr fun q hq=>?_
 simp only[zA9,zAw,zAZ];by_cases e:q.2.2=p.2.2
 ·have:=same_birth ho hp hq e;subst this;simp[h]
 ·grind
theorem lessE_no{es:List (AV×AV×Nat)}{clock:Nat}(ho:MpOk es clock){o:AV×AV×Nat→Bool}{ps:List (AV×AV×Nat)}{p:AV×AV×Nat}(hp:p∈es)(h:o p=false):lessE es o (ps++[p])=lessE es o ps:=by
 unfold lessE;refine List.filter_congr fun q hq=>?_
 simp only[zA9,zAw,zAZ];by_cases e:q.2.2=p.2.2
 ·have:=same_birth ho hp hq e;subst this;simp[h]
 ·grind
theorem lessE_left{es:List (AV×AV×Nat)}{o:AV×AV×Nat→Bool}{ps:List (AV×AV×Nat)}:aE1 (lessE es o ps) (ps.map (·.2.2))=aE1 es (ps.map (·.2.2)):=by
 unfold aE1 lessE;rw[List.filter_filter];refine List.filter_congr fun q hq=>?_
 cases(ps.map (·.2.2)).contains q.2.2<;>simp
theorem lessE_end{es ps:List (AV×AV×Nat)}{o:AV×AV×Nat→Bool}(h:ps.Perm es):lessE es o ps=es.filter fun q=> !o q:=by
 unfold lessE;refine List.filter_congr fun q hq=>?_
 have:(ps.map (·.2.2)).contains q.2.2=true:=by
  rw[zBU];exact zAm.2 ⟨q,h.mem_iff.2 hq,rfl⟩
 rw[this,zAN]
def outQ(xs:List Int)(q:AV×AV×Nat):Bool:=match q.2.1 with
 |.agg (.int _ i::_)=>xs.contains i
 |_=>false
theorem aVZ{m:List (Txt×Nd)}(h:(m.map (·.1)).Nodup):StrK (pV 0 m) where
 ki:=aDW 0 m
 nd:=by
  rw[aWS];induction m with
  |nil=>exact List.nodup_nil
  |cons p m ih=>
   rw[zAw,zB8]at h;rw[zAw,zAw,zB8];refine⟨fun hx=>?_,ih h.2⟩
   obtain⟨s,hs,e⟩:=zAm.1 hx;cases e;exact h.1 hs
theorem nmE_out(xs:List Int):∀(b:Nat) (m:List (Txt×Nd)),((pV b m).filter fun q=> !outQ xs q).map (·.1)=((m.filter fun p=> !xs.contains p.2.id).map (·.1)).map AV.str:=by
 intro b m;induction m generalizing b with
 |nil=>rfl
 |cons p m ih=>
  have e:outQ xs (AV.str p.1,ndA p.2,b)=xs.contains p.2.id:=rfl;rw[pV,zA5,zA5,e];split
  ·rw[zAw,ih];rfl
  ·exact ih _
theorem nmE_mem{b:Nat}{m:List (Txt×Nd)}{q:AV×AV×Nat}(h:q∈pV b m):∃p∈m,q.1=.str p.1∧q.2.1=ndA p.2:=by
 induction m generalizing b with
 |nil=>cases h
 |cons p m ih=>
  rcases zAs.1 h with rfl|h
  ·exact⟨p,by simp,rfl,rfl⟩
  ·obtain⟨r,hr,e⟩:=ih h;exact⟨r,zAR _ hr,e⟩
theorem mem_nmE{b:Nat}{m:List (Txt×Nd)}{p:Txt×Nd}(h:p∈m):∃k,(AV.str p.1,ndA p.2,k)∈pV b m:=by
 induction m generalizing b with
 |nil=>cases h
 |cons x m ih=>
  rcases zAs.1 h with rfl|h
  ·exact⟨b,by simp[pV]⟩
  ·obtain⟨k,hk⟩:=ih (b:=b+1) h;exact⟨k,zAR _ hk⟩
end
section
structure CS (c:Cal):Prop where
 path:c.path.length≤1048576
 to:c.to.length≤1048576
 data:c.data.length≤1048576
theorem abv_small{l:List Nd}{p:Txt}{dir:Int}{s:Txt}(h:abvN l p=(dir,s,0)):s.length≤80:=by
 obtain⟨ns,hn, -, -⟩:=aCv h;exact aFI (aEs hn s (by simp))
theorem aO0{i j:Nat}{c:Cal}{d:Dsk}{G:AHeap}(hb:KB i j c d G)(hs:DS d.m)(hc:CS c)(hl:d.ops.length≤1000000):aEv Tryz.prog 120 i j c (aEc c d) G:=by
 refine aO Tryz.func120 ?_;have r0:=hb.b1;have r1:=aG hb.b1 trivial;have r2:=aG hb.b2 trivial;have hne:=hb.ne;have hl1:=hb.lt1;have hl2:=hb.lt2;have r3:=hb.r3;have r4:=hb.r4;have hnl:=aC G i;simp only[dkC]at r0 r1;have qs:=tZ hl1 hl2 hne rfl;unfold aEc;by_cases h1:c.path=[47]
 ·have d1:decide (c.path=[47])=true:=zAj h1;rw[zAl h1];repeat' first|(refine gS ?_;simp only[go_sem,r0,r1,r2,r3,r4,hnl,qs,aC,d1])|refine gA ?_|(refine gD ?_ ?_<;>intro h<;>try exact aA h)|fail
  exact aHg hb rfl hb.own.symm
 have d1:decide (c.path=[47])=false:=zAg h1;rw[zAe h1];have hab:=aYx false d.m.log.nodes c.path (by have:=hs.nodes;omega) hc.path
 obtain⟨⟨dir,s,e⟩,ha⟩:∃x,abvN d.m.log.nodes c.path=x:=⟨_,rfl⟩;rw[ha]at hab ⊢;simp only[aOM]at hab;by_cases he:e=0
 ·subst he;simp only[zBc];have hch:=aGX false d.m.log.nodes dir s (by have:=hs.nodes;omega)
  cases hcn:childN d.m.log.nodes dir s with
  |some n=>
   simp only[hcn,aA5,zCm,zBh,zBW]at hch;simp only[zBW,zBc];repeat' first|(refine gS ?_;simp only[go_sem,r0,r1,r2,r3,r4,hnl,qs,aC,d1])|refine gA ?_|(refine gD ?_ ?_<;>intro h<;>try exact aA h)|fail
   exact aHg hb rfl hb.own.symm
  |none=>
   simp only[hcn,aA5,zCF,zCw,zB4]at hch;rw[zAe (by simp)]
   have hnx:=fun L=>aON j c d i (by have:=hs.ents;omega) (G++L) (hb.app L).b1
   have hnx0:=aON j c d i (by have:=hs.ents;omega) G hb.b1
   obtain⟨⟨st,f⟩,hn⟩:∃x,nextD d.m=x:=⟨_,rfl⟩;simp only[hn,stA]at hnx hnx0 ⊢;by_cases hf:f=0
   ·subst hf;rw[zAl rfl];have hid:=aYZ st.c st.r (decide (c.kind=1));repeat' first|((first|refine aZ (hnx0) (cO) ?_|refine bA (hnx0) (cO) ?_|refine bB (fun _=>hnx0) (cO) ?_|refine gS ?_);simp only[go_sem,r0,r1,r2,r3,r4,hnl,qs,aC,d1])|refine gA ?_|(refine gD ?_ ?_<;>intro h<;>try exact aA h)|fail
    refine aR (aWP (hb.app _) hs (o:=⟨st0,1,idI st.c st.r (decide (c.kind=1)),dir,s,[]⟩) ⟨by have:=abv_small ha;simp only;omega,by simp⟩ hl) (cO) ?_
    rintro v H' ⟨rfl,rfl⟩;rw[hb.happ];simp only[go_sem];repeat' first|(refine gS ?_;simp only[go_sem])|refine gA ?_|(refine gD ?_ ?_<;>intro h<;>try exact aA h)|fail
    exact qK hb rfl rfl
   ·have hd:decide (f=0)=false:=zAg hf;rw[zAe hf];repeat' first|((first|refine aZ (hnx0) (cO) ?_|refine bA (hnx0) (cO) ?_|refine bB (fun _=>hnx0) (cO) ?_|refine gS ?_);simp only[go_sem,r0,r1,r2,r3,r4,hnl,qs,aC,d1,hd])|refine gA ?_|(refine gD ?_ ?_<;>intro h<;>try exact aA h)|fail
    exact qK hb rfl hb.own.symm
 ·have hd:decide (e=0)=false:=zAg he;simp only[zAe he];repeat' first|(refine gS ?_;simp only[go_sem,r0,r1,r2,r3,r4,hnl,qs,aC,d1,hd])|refine gA ?_|(refine gD ?_ ?_<;>intro h<;>try exact aA h)|fail
  exact aHg hb rfl hb.own.symm
theorem aV0{i j:Nat}{c:Cal}{d:Dsk}{G:AHeap}(hb:KB i j c d G)(hs:DS d.m)(hc:CS c)(hl:d.ops.length≤1000000):aEv Tryz.prog 121 i j c (aBf c d) G:=by
 refine aO Tryz.func121 ?_;have r0:=hb.b1;have r1:=aG hb.b1 trivial;have r2:=aG hb.b2 trivial;have hne:=hb.ne;have hl1:=hb.lt1;have hl2:=hb.lt2;have r3:=hb.r3;have r4:=hb.r4;have hnl:=aC G i;simp only[dkC]at r0 r1;have qs:=tZ hl1 hl2 hne rfl;unfold aBf;have hat:=aXY false d.m.log.nodes c.path (by have:=hs.nodes;omega) hc.path
 obtain⟨⟨id,e⟩,ha⟩:∃x,qD d.m.log.nodes c.path=x:=⟨_,rfl⟩;rw[ha]at hat ⊢;simp only[aA6]at hat;by_cases he:e=0
 ·subst he;simp only[zBc];have hdd:=aA0 id;cases hdi:dirI id with
  |true=>
   rw[hdi]at hdd;rw[zAl rfl];repeat' first|(refine gS ?_;simp only[go_sem,r0,r1,r2,r3,r4,hnl,qs,aC])|refine gA ?_|(refine gD ?_ ?_<;>intro h<;>try exact aA h)|fail
   exact aHg hb rfl hb.own.symm
  |false=>
   rw[hdi]at hdd;rw[zAe (by simp)]
   repeat' first|(refine gS ?_;simp only[go_sem,r0,r1,r2,r3,r4,hnl,qs,aC])|refine gA ?_|(refine gD ?_ ?_<;>intro h<;>try exact aA h)|fail
   refine aR (aWP hb hs (o:=⟨st0,2,id,0,[],c.data⟩) ⟨by simp,by have:=hc.data;simp only;omega⟩ hl) (cO) ?_
   rintro v H' ⟨rfl,rfl⟩;simp only[go_sem];repeat' first|(refine gS ?_;simp only[go_sem])|refine gA ?_|(refine gD ?_ ?_<;>intro h<;>try exact aA h)|fail
   exact aHg hb rfl rfl
 ·have hd:decide (e=0)=false:=zAg he;simp only[zAe he];repeat' first|(refine gS ?_;simp only[go_sem,r0,r1,r2,r3,r4,hnl,qs,aC,hd])|refine gA ?_|(refine gD ?_ ?_<;>intro h<;>try exact aA h)|fail
  exact aHg hb rfl hb.own.symm
theorem aF8{m:Mdl}(hs:DS m){n:Int}{l:List Nd}(h:rQ m n=some l):l.length≤1000000:=by
 unfold rQ at h;split at h
 ·cases h;exact hs.nodes
 ·obtain⟨s,hf,rfl⟩:=zAM.1 h;exact hs.snap s (zAT hf)
theorem aWV{i j:Nat}{c:Cal}{d:Dsk}{G:AHeap}(hb:KB i j c d G)(hs:DS d.m)(hc:CS c)(hsm:∀l,rQ d.m c.n=some l→SmN l):aEv Tryz.prog 122 i j c (aGY c d) G:=by
 refine aO Tryz.func122 ?_;have r0:=hb.b1;have r1:=aG hb.b1 trivial;have r2:=aG hb.b2 trivial;have hne:=hb.ne;have hl1:=hb.lt1;have hl2:=hb.lt2;have r3:=hb.r3;have r4:=hb.r4;have hnl:=aC G i;simp only[dkC]at r0 r1;have qs:=tZ hl1 hl2 hne rfl;unfold aGY;have hnd:=aWO d.m c.n i _ hs.snaps G hb.b1;cases hn:rQ d.m c.n with
 |none=>
  rw[hn]at hnd;simp only[aSA]at hnd;repeat' first|((first|refine aZ (hnd) (cO) ?_|refine bA (hnd) (cO) ?_|refine bB (fun _=>hnd) (cO) ?_|refine gS ?_);simp only[go_sem,r0,r1,r2,r3,r4,hnl,qs,aC])|refine gA ?_|(refine gD ?_ ?_<;>intro h<;>try exact aA h)|fail
  exact aHg hb rfl hb.own.symm
 |some l=>
  rw[hn]at hnd;simp only[aSA]at hnd;have hl:l.length≤1000000:=aF8 hs hn;have hat:=aXY false l c.path (by omega) hc.path
  simp only;obtain⟨⟨id,e⟩,ha⟩:∃x,qD l c.path=x:=⟨_,rfl⟩;rw[ha]at hat ⊢;simp only[aA6]at hat;by_cases he:e=0
  ·subst he;simp only[zBc];have hdd:=aA0 id;cases hdi:dirI id with
   |true=>
    rw[hdi]at hdd;rw[zAl rfl];repeat' first|((first|refine aZ (hnd) (cO) ?_|refine bA (hnd) (cO) ?_|refine bB (fun _=>hnd) (cO) ?_|refine gS ?_);simp only[go_sem,r0,r1,r2,r3,r4,hnl,qs,aC])|refine gA ?_|(refine gD ?_ ?_<;>intro h<;>try exact aA h)|fail
    exact aHg hb rfl hb.own.symm
   |false=>
    rw[hdi]at hdd;rw[zAe (by simp)]
    have hf:=aR7 false l id;simp only[ndV,ndA]at hf;repeat' first|((first|refine aZ (hnd) (cO) ?_|refine bA (hnd) (cO) ?_|refine bB (fun _=>hnd) (cO) ?_|refine gS ?_);simp only[go_sem,r0,r1,r2,r3,r4,hnl,qs,aC])|refine gA ?_|(refine gD ?_ ?_<;>intro h<;>try exact aA h)|fail
    exact qK hb rfl (hb.one (d':={d with a:={d.a with data:=((findI l id).getD nd0).data}}) rfl)
  ·have hd:decide (e=0)=false:=zAg he;simp only[zAe he];repeat' first|((first|refine aZ (hnd) (cO) ?_|refine bA (hnd) (cO) ?_|refine bB (fun _=>hnd) (cO) ?_|refine gS ?_);simp only[go_sem,r0,r1,r2,r3,r4,hnl,qs,aC,hd])|refine gA ?_|(refine gD ?_ ?_<;>intro h<;>try exact aA h)|fail
   exact aHg hb rfl hb.own.symm
theorem aYy{i j:Nat}{c:Cal}{d:Dsk}{G:AHeap}(hb:KB i j c d G)(hs:DS d.m)(hc:CS c)(hsm:∀l,rQ d.m c.n=some l→SmN l):aEv Tryz.prog 125 i j c (lsD c d) G:=by
 refine aO Tryz.func125 ?_;have r0:=hb.b1;have r1:=aG hb.b1 trivial;have r2:=aG hb.b2 trivial;have hne:=hb.ne;have hl1:=hb.lt1;have hl2:=hb.lt2;have r3:=hb.r3;have r4:=hb.r4;have hnl:=aC G i;simp only[dkC]at r0 r1;have qs:=tZ hl1 hl2 hne rfl;unfold lsD;have hnd:=aWO d.m c.n i _ hs.snaps G hb.b1;cases hn:rQ d.m c.n with
 |none=>
  rw[hn]at hnd;simp only[aSA]at hnd;repeat' first|((first|refine aZ (hnd) (cO) ?_|refine bA (hnd) (cO) ?_|refine bB (fun _=>hnd) (cO) ?_|refine gS ?_);simp only[go_sem,r0,r1,r2,r3,r4,hnl,qs,aC])|refine gA ?_|(refine gD ?_ ?_<;>intro h<;>try exact aA h)|fail
  exact aHg hb rfl hb.own.symm
 |some l=>
  rw[hn]at hnd;simp only[aSA]at hnd;have hl:l.length≤1000000:=aF8 hs hn;have hat:=aXY false l c.path (by omega) hc.path
  simp only;obtain⟨⟨id,e⟩,ha⟩:∃x,qD l c.path=x:=⟨_,rfl⟩;rw[ha]at hat ⊢;simp only[aA6]at hat;by_cases he:e=0
  ·subst he;simp only[zBc];have hdd:=aA0 id;cases hdi:dirI id with
   |true=>
    rw[hdi]at hdd;rw[zAl rfl];have hf:=vlist_c false l id (by omega) (hsm l hn)
    repeat' first|((first|refine aZ (hnd) (cO) ?_|refine bA (hnd) (cO) ?_|refine bB (fun _=>hnd) (cO) ?_|refine gS ?_);simp only[go_sem,r0,r1,r2,r3,r4,hnl,qs,aC])|refine gA ?_|(refine gD ?_ ?_<;>intro h<;>try exact aA h)|fail
    exact aHg hb rfl (hb.one (d':={d with a:={d.a with names:=aKG l id}}) rfl)
   |false=>
    rw[hdi]at hdd;rw[zAe (by simp)]
    repeat' first|((first|refine aZ (hnd) (cO) ?_|refine bA (hnd) (cO) ?_|refine bB (fun _=>hnd) (cO) ?_|refine gS ?_);simp only[go_sem,r0,r1,r2,r3,r4,hnl,qs,aC])|refine gA ?_|(refine gD ?_ ?_<;>intro h<;>try exact aA h)|fail
    exact aHg hb rfl hb.own.symm
  ·have hd:decide (e=0)=false:=zAg he;simp only[zAe he];repeat' first|((first|refine aZ (hnd) (cO) ?_|refine bA (hnd) (cO) ?_|refine bB (fun _=>hnd) (cO) ?_|refine gS ?_);simp only[go_sem,r0,r1,r2,r3,r4,hnl,qs,aC,hd])|refine gA ?_|(refine gD ?_ ?_<;>intro h<;>try exact aA h)|fail
   exact aHg hb rfl hb.own.symm
theorem aUz{i j:Nat}{c:Cal}{d:Dsk}{G:AHeap}(hb:KB i j c d G)(hs:DS d.m)(hc:CS c)(hl:d.ops.length≤1000000):aEv Tryz.prog 124 i j c (vU c d) G:=by
 refine aO Tryz.func124 ?_;have r0:=hb.b1;have r1:=aG hb.b1 trivial;have r2:=aG hb.b2 trivial;have hne:=hb.ne;have hl1:=hb.lt1;have hl2:=hb.lt2;have r3:=hb.r3;have r4:=hb.r4;have hnl:=aC G i;simp only[dkC]at r0 r1;have qs:=tZ hl1 hl2 hne rfl;unfold vU;by_cases h1:c.path=[47]
 ·have d1:decide (c.path=[47])=true:=zAj h1;rw[zAl h1];repeat' first|(refine gS ?_;simp only[go_sem,r0,r1,r2,r3,r4,hnl,qs,aC,d1])|refine gA ?_|(refine gD ?_ ?_<;>intro h<;>try exact aA h)|fail
  exact aHg hb rfl hb.own.symm
 have d1:decide (c.path=[47])=false:=zAg h1;rw[zAe h1];have hat:=aXY false d.m.log.nodes c.path (by have:=hs.nodes;omega) hc.path
 obtain⟨⟨id,e⟩,ha⟩:∃x,qD d.m.log.nodes c.path=x:=⟨_,rfl⟩;rw[ha]at hat ⊢;simp only[aA6]at hat;by_cases he:e=0
 ·subst he;simp only[zBc];have hsp:=aBb c.path hc.path;unfold gY at hsp;cases hn:bM c.path with
  |none=>
   simp only[hn]at hsp;repeat' first|(refine gS ?_;simp only[go_sem,r0,r1,r2,r3,r4,hnl,qs,aC,d1])|refine gA ?_|(refine gD ?_ ?_<;>intro h<;>try exact aA h)|fail
   exact aHg hb rfl hb.own.symm
  |some ns=>
   simp only[hn,d1]at hsp;cases ns with
   |nil=>
    repeat' first|(refine gS ?_;simp only[go_sem,r0,r1,r2,r3,r4,hnl,qs,aC,d1])|refine gA ?_|(refine gD ?_ ?_<;>intro h<;>try exact aA h)|fail
    exact aHg hb rfl hb.own.symm
   |cons x xs=>
    have hlen:=nJ hn;rw[zAc]at hlen;have hw:IntKind.i64.wrap (((xs.length+1:Nat):Int)-1)=(xs.length:Int):=by rw[wI];omega
    have hd:decide (((xs.length+1:Nat):Int)=0)=false:=dF;have hgd:(AV.str x::xs.map AV.str).getD xs.length .top=.str ((x::xs).getLast (by simp)):=by
     rw[←zAw (f:=AV.str),aN AV.str (by simp),List.getLast_eq_getElem];simp
    have hlt:xs.length<xs.length+1:=zA8 _;have hsm:((x::xs).getLast (by simp)).length≤80:=aFI (aEs hn _ (List.getLast_mem _))
    obtain⟨s,hse⟩:∃s,(x::xs).getLast (by simp)=s:=⟨_,rfl⟩
    rw[hse]at hgd hsm;simp only[hse];repeat' first|(refine gS ?_;simp only[go_sem,r0,r1,r2,r3,r4,hnl,qs,aC,d1,hw,hd,hgd,hlt])|refine gA ?_|(refine gD ?_ ?_<;>intro h<;>try exact aA h)|fail
    refine aR (aWP hb hs (o:=⟨st0,1,id,2,s,[]⟩) ⟨by simp only;omega,by simp⟩ hl) (cO) ?_
    rintro v H' ⟨rfl,rfl⟩;simp only[go_sem];repeat' first|(refine gS ?_;simp only[go_sem])|refine gA ?_|(refine gD ?_ ?_<;>intro h<;>try exact aA h)|fail
    exact aHg hb rfl rfl
 ·have hd:decide (e=0)=false:=zAg he;simp only[zAe he];repeat' first|(refine gS ?_;simp only[go_sem,r0,r1,r2,r3,r4,hnl,qs,aC,d1,hd])|refine gA ?_|(refine gD ?_ ?_<;>intro h<;>try exact aA h)|fail
  exact aHg hb rfl hb.own.symm
theorem aWW{i j:Nat}{c:Cal}{d:Dsk}{G:AHeap}(hb:KB i j c d G)(hs:DS d.m)(hc:CS c)(hl:d.ops.length≤1000000):aEv Tryz.prog 123 i j c (aEd c d) G:=by
 refine aO Tryz.func123 ?_;have r0:=hb.b1;have r1:=aG hb.b1 trivial;have r2:=aG hb.b2 trivial;have hne:=hb.ne;have hl1:=hb.lt1;have hl2:=hb.lt2;have r3:=hb.r3;have r4:=hb.r4;have hnl:=aC G i;simp only[dkC]at r0 r1;have qs:=tZ hl1 hl2 hne rfl;unfold aEd;by_cases h1:c.path=[47]
 ·have d1:decide (c.path=[47])=true:=zAj h1;rw[zAl (.inl h1)];repeat' first|(refine gS ?_;simp only[go_sem,r0,r1,r2,r3,r4,hnl,qs,aC,d1])|refine gA ?_|(refine gD ?_ ?_<;>intro h<;>try exact aA h)|fail
  exact aHg hb rfl hb.own.symm
 have d1:decide (c.path=[47])=false:=zAg h1;by_cases h2:c.to=[47]
 ·have d2:decide (c.to=[47])=true:=zAj h2;rw[zAl (.inr h2)];repeat' first|(refine gS ?_;simp only[go_sem,r0,r1,r2,r3,r4,hnl,qs,aC,d1,d2])|refine gA ?_|(refine gD ?_ ?_<;>intro h<;>try exact aA h)|fail
  exact aHg hb rfl hb.own.symm
 have d2:decide (c.to=[47])=false:=zAg h2;rw[zAe (by rintro(h|h)<;>contradiction)]
 have hat:=aXY false d.m.log.nodes c.path (by have:=hs.nodes;omega) hc.path
 obtain⟨⟨id,e⟩,ha⟩:∃x,qD d.m.log.nodes c.path=x:=⟨_,rfl⟩;rw[ha]at hat ⊢;simp only[aA6]at hat;by_cases he:e=0
 ·subst he;simp only[zBc];have hab:=aYx false d.m.log.nodes c.to (by have:=hs.nodes;omega) hc.to
  obtain⟨⟨dir,s,f⟩,hbv⟩:∃x,abvN d.m.log.nodes c.to=x:=⟨_,rfl⟩;rw[hbv]at hab ⊢;simp only[aOM]at hab;by_cases hf:f=0
  ·subst hf;simp only[zBc];have hch:=aGX false d.m.log.nodes dir s (by have:=hs.nodes;omega)
   cases hcn:childN d.m.log.nodes dir s with
   |some n=>
    simp only[hcn,aA5,zCm,zBh,zBW]at hch;simp only[zBW,zBc];repeat' first|(refine gS ?_;simp only[go_sem,r0,r1,r2,r3,r4,hnl,qs,aC,d1,d2])|refine gA ?_|(refine gD ?_ ?_<;>intro h<;>try exact aA h)|fail
    exact aHg hb rfl hb.own.symm
   |none=>
    simp only[hcn,aA5,zCF,zCw,zB4]at hch;rw[zAe (by simp)]
    by_cases hdi:dir=id
    ·have dd:decide (dir=id)=true:=zAj hdi;rw[zAl (.inl hdi)];repeat' first|(refine gS ?_;simp only[go_sem,r0,r1,r2,r3,r4,hnl,qs,aC,d1,d2,dd])|refine gA ?_|(refine gD ?_ ?_<;>intro h<;>try exact aA h)|fail
     exact aHg hb rfl hb.own.symm
    have dd:decide (dir=id)=false:=zAg hdi;have hup:=aKw false d.m.log.nodes dir (by have:=hs.nodes;omega)
    have hct:=vO false (kM d.m.log.nodes dir) id;have hca:((kM d.m.log.nodes dir).any fun x=>decide (x=id))=(kM d.m.log.nodes dir).contains id:=by rw[zBo];simp
    cases hin:(kM d.m.log.nodes dir).contains id with
    |true=>
     rw[zAl (.inr rfl)];simp only[hca,hin]at hct;repeat' first|(refine gS ?_;simp only[go_sem,r0,r1,r2,r3,r4,hnl,qs,aC,d1,d2,dd])|refine gA ?_|(refine gD ?_ ?_<;>intro h<;>try exact aA h)|fail
     exact aHg hb rfl hb.own.symm
    |false=>
     rw[zAe (by rintro(h|h)<;>contradiction)]
     simp only[hca,hin]at hct;repeat' first|(refine gS ?_;simp only[go_sem,r0,r1,r2,r3,r4,hnl,qs,aC,d1,d2,dd])|refine gA ?_|(refine gD ?_ ?_<;>intro h<;>try exact aA h)|fail
     refine aR (aWP hb hs (o:=⟨st0,1,id,dir,s,[]⟩) ⟨by have:=abv_small hbv;simp only;omega,by simp⟩ hl) (cO) ?_
     rintro v H' ⟨rfl,rfl⟩;simp only[go_sem];repeat' first|(refine gS ?_;simp only[go_sem])|refine gA ?_|(refine gD ?_ ?_<;>intro h<;>try exact aA h)|fail
     exact aHg hb rfl rfl
  ·have hd:decide (f=0)=false:=zAg hf;simp only[zAe hf];repeat' first|(refine gS ?_;simp only[go_sem,r0,r1,r2,r3,r4,hnl,qs,aC,d1,d2,hd])|refine gA ?_|(refine gD ?_ ?_<;>intro h<;>try exact aA h)|fail
   exact aHg hb rfl hb.own.symm
 ·have hd:decide (e=0)=false:=zAg he;simp only[zAe he];repeat' first|(refine gS ?_;simp only[go_sem,r0,r1,r2,r3,r4,hnl,qs,aC,d1,d2,hd])|refine gA ?_|(refine gD ?_ ?_<;>intro h<;>try exact aA h)|fail
  exact aHg hb rfl hb.own.symm
end
end Go.Proofs.YtennnelammaapaaGreatDoor
