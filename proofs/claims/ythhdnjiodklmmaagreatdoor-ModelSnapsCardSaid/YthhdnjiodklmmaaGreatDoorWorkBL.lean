/- The texts 38 of 51 beneath the rows of this seat (joined by program): the abstract machine, and what the functions answer. No condition. -/
import Derived.Test.YthhdnjiodklmmaaGreatDoorWorkBK
set_option linter.unusedSimpArgs false
set_option linter.unusedVariables false
set_option linter.unusedSectionVars false
/- Maps ars blocks: sets of numbers; entries that are deleted while they are gone through. In plain Lean. No condition. -/
namespace Go.Aw
open Go
structure OutOk (xs:List Int) (es:List (AV×AV×Nat)):Prop where
 ki:keysIn (.int .i64) es
 at_:∀x:Int,(keyAt (.int .i64 x) es).map (·.2)=if x∈xs then some (.bool true)else none
 cl:∀n,∀p∈es,Cl n p.1∧Cl n p.2.1
theorem aVe:OutOk [] []:=⟨fun p hp=>(by cases hp),fun x=>rfl,fun n p hp=>(by cases hp)⟩
theorem aHM(y:Int)(clock:Nat):∀(es:List (AV×AV×Nat)),keysIn (.int .i64) es→keysIn (.int .i64) (dR (.int .i64 y) (.bool true) es clock)∧
  (∀x:Int,(keyAt (.int .i64 x) (dR (.int .i64 y) (.bool true) es clock)).map (·.2)=if x=y then some (.bool true)else(keyAt (.int .i64 x) es).map (·.2)):=by
 intro es
 induction es with
 |nil=>
  intro _
  refine⟨fun p hp=>?_,fun x=>?_⟩
  ·simp only[dR,keyAt,List.nil_append,List.mem_singleton]at hp
   subst hp;rfl
  ·simp only[dR,keyAt,List.nil_append,iG]
   by_cases h:x=y<;>simp[h]
 |cons q es ih=>
  obtain⟨k,w,b⟩:=q
  intro hk
  have hk0:aA8 (.int .i64) k=true:=hk (k,w,b) (by simp)
  have hk1:keysIn (.int .i64) es:=fun p hp=>hk p (List.mem_cons_of_mem _ hp)
  cases k<;>simp only[aA8,Bool.false_eq_true]at hk0
  rename_i kk z
  rw[decide_eq_true_eq]at hk0
  subst hk0
  by_cases hyz:y=z
  ·subst hyz
   have e:dR (.int .i64 y) (.bool true) ((AV.int .i64 y,w,b)::es) clock=(.int .i64 y,.bool true,b)::es:=by simp[dR,keyAt,iG]
   rw[e]
   refine⟨fun p hp=>?_,fun x=>?_⟩
   ·rcases List.mem_cons.1 hp with rfl|hp
    ·rfl
    ·exact hk1 p hp
   ·simp only[keyAt,iG]
    by_cases h:x=y<;>simp[h]
  ·have hne:iG (.int .i64 y) (.int .i64 z)=false:=by simp[iG,hyz]
   rw[Go.Gw.qC hne]
   obtain⟨i1,i2⟩:=ih hk1
   refine⟨fun p hp=>?_,fun x=>?_⟩
   ·rcases List.mem_cons.1 hp with rfl|hp
    ·rfl
    ·exact i1 p hp
   ·have:=i2 x
    simp only[keyAt,iG]
    by_cases h:x=z
    ·subst h
     have hxy:¬x=y:=fun e=>hyz e.symm
     simp[hxy]
    ·simp only[decide_eq_false h,cond_false,Option.map_map]
     by_cases hxy:x=y
     ·rw[if_pos hxy]at this ⊢
      cases hkk:keyAt (.int .i64 x) (dR (.int .i64 y) (.bool true) es clock)with
      |none=>rw[hkk]at this;cases this
      |some v=>rw[hkk]at this;simpa using this
     ·rw[if_neg hxy]at this ⊢
      cases hkk:keyAt (.int .i64 x) (dR (.int .i64 y) (.bool true) es clock)with
      |none=>rw[hkk]at this;cases hk2:keyAt (.int .i64 x) es with
       |none=>rfl
       |some v=>rw[hk2]at this;cases this
      |some v=>rw[hkk]at this;cases hk2:keyAt (.int .i64 x) es with
       |none=>rw[hk2]at this;cases this
       |some u=>rw[hk2]at this;simpa using this
theorem aB3{n:Nat}{x v:AV}(hx:Cl n x)(hv:Cl n v){es:List (AV×AV×Nat)}(h:∀p∈es,Cl n p.1∧Cl n p.2.1)(clock:Nat):∀p∈dR x v es clock,Cl n p.1∧Cl n p.2.1:=by
 intro p hp
 unfold dR at hp
 split at hp
 ·obtain⟨j,hj⟩:=List.mem_iff_getElem?.1 hp
  rw[List.getElem?_modify]at hj
  cases hq:es[j]? with
  |none=>rw[hq]at hj;cases hj
  |some q=>
   rw[hq]at hj
   simp only[Option.map_eq_map,Option.map_some,Option.some.injEq]at hj
   have hm:=h q (List.mem_of_getElem? hq)
   subst hj
   split
   ·exact⟨hx,hv⟩
   ·exact hm
 ·rcases List.mem_append.1 hp with hp|hp
  ·exact h p hp
  ·rw[List.mem_singleton]at hp;subst hp;exact⟨hx,hv⟩
theorem aVf{xs:List Int}{es:List (AV×AV×Nat)}(h:OutOk xs es)(y:Int)(clock:Nat):OutOk (xs++[y]) (dR (.int .i64 y) (.bool true) es clock):=by
 obtain⟨i1,i2⟩:=aHM y clock es h.ki
 refine⟨i1,fun x=>?_,fun n=>aB3 (.int _ _) (.bool _) (h.cl n) clock⟩
 rw[i2,h.at_]
 by_cases h1:x=y
 ·simp[h1]
 ·by_cases h2:x∈xs<;>simp[h1,h2]
structure StrK (es:List (AV×AV×Nat)):Prop where
 ki:keysIn .string es
 nd:(es.map (·.1)).Nodup
theorem StrK.filter{es:List (AV×AV×Nat)}(h:StrK es)(f:AV×AV×Nat→Bool):StrK (es.filter f):=
 ⟨fun p hp=>h.ki p (List.mem_filter.1 hp).1,List.Nodup.sublist (List.Sublist.map _ List.filter_sublist) h.nd⟩
theorem StrK.at_{es:List (AV×AV×Nat)}(h:StrK es){p:AV×AV×Nat}(hp:p∈es){s:List UInt8}(hs:p.1=.str s):∃j,keyAt (.str s) es=some (j,p.2.1)∧es[j]?=some p:=by
 obtain⟨hk,hn⟩:=h
 induction es with
 |nil=>cases hp
 |cons q es ih=>
  obtain⟨k,w,b⟩:=q
  rw[List.map_cons,List.nodup_cons]at hn
  have hk0:aA8 .string k=true:=hk (k,w,b) (by simp)
  cases k<;>simp only[aA8,Bool.false_eq_true]at hk0
  rename_i t
  rcases List.mem_cons.1 hp with rfl|hp'
  ·simp only at hs
   cases hs
   exact⟨0,by simp[keyAt,iG],rfl⟩
  ·have hne:¬s=t:=fun e=>hn.1 (by subst e;rw[←hs];exact List.mem_map.2 ⟨p,hp',rfl⟩)
   obtain⟨j,h1,h2⟩:=ih hp' (fun p hp=>hk p (List.mem_cons_of_mem _ hp)) hn.2
   exact⟨j+1,by simp[keyAt,iG,hne,h1],by simpa using h2⟩
theorem aCO{α β:Type}[BEq β][LawfulBEq β](f:α→β):∀(l:List α) (j:Nat) (p:α),(l.map f).Nodup→l[j]?=some p→l.eraseIdx j=l.filter (fun q=> !(f q==f p)):=by
 intro l
 induction l with
 |nil=>intro j p _ h;cases h
 |cons x l ih=>
  intro j p hn h
  rw[List.map_cons,List.nodup_cons]at hn
  cases j with
  |zero=>
   cases h
   rw[List.eraseIdx_cons_zero,List.filter_cons,if_neg (by simp)]
   symm
   rw[List.filter_eq_self]
   intro q hq
   simp only[Bool.not_eq_true',beq_eq_false_iff_ne]
   intro e
   exact hn.1 (e▸List.mem_map.2 ⟨q,hq,rfl⟩)
  |succ j=>
   rw[List.getElem?_cons_succ]at h
   rw[List.eraseIdx_cons_succ,List.filter_cons,if_pos,ih j p hn.2 h]
   simp only[Bool.not_eq_true',beq_eq_false_iff_ne]
   intro e
   exact hn.1 (e▸List.mem_map.2 ⟨p,List.mem_of_getElem? h,rfl⟩)
theorem aQX{es:List (AV×AV×Nat)}{clock:Nat}(h:StrK es)(ho:MpOk es clock){p:AV×AV×Nat}(hp:p∈es){s:List UInt8}(hs:p.1=.str s):aOi (.str s) es=es.filter fun q=> !(q.2.2==p.2.2):=by
 obtain⟨j,h1,h2⟩:=h.at_ hp hs
 unfold aOi
 rw[h1]
 exact aCO (fun q:AV×AV×Nat=>q.2.2) es j p ho.nd h2
def pN(es:List (AV×AV×Nat))(o:AV×AV×Nat→Bool)(ps:List (AV×AV×Nat)):List (AV×AV×Nat):=es.filter fun q=> !((ps.map (·.2.2)).contains q.2.2&&o q)
theorem aS7(es:List (AV×AV×Nat))(o:AV×AV×Nat→Bool):pN es o []=es:=by
 unfold pN;rw[List.filter_eq_self];intro q _;simp
theorem aA0{es:List (AV×AV×Nat)}{clock:Nat}(ho:MpOk es clock){p q:AV×AV×Nat}(hp:p∈es)(hq:q∈es)(e:q.2.2=p.2.2):q=p:=by
 have e1:=ho.find hp
 have e2:=ho.find hq
 rw[e,e1]at e2
 cases e2;rfl
theorem vJ(a:List Nat)(b x:Nat):(a++[b]).contains x=(a.contains x||x==b):=by
 rw[Bool.eq_iff_iff,List.contains_iff_mem,Bool.or_eq_true,List.contains_iff_mem,beq_iff_eq,List.mem_append,List.mem_singleton]
theorem aS8{es:List (AV×AV×Nat)}{clock:Nat}(ho:MpOk es clock){o:AV×AV×Nat→Bool}{ps:List (AV×AV×Nat)}{p:AV×AV×Nat}(hp:p∈es)(h:o p=true):pN es o (ps++[p])=(pN es o ps).filter fun q=> !(q.2.2==p.2.2):=by
 unfold pN
 rw[List.filter_filter]
 refine List.filter_congr fun q hq=>?_
 simp only[List.map_append,List.map_cons,List.map_nil]
 by_cases e:q.2.2=p.2.2
 ·have:=aA0 ho hp hq e
  subst this
  simp[h]
 ·have e':(q.2.2==p.2.2)=false:=by simp[e]
  simp only[vJ,e',Bool.or_false,Bool.not_false,Bool.true_and]
theorem aUy{es:List (AV×AV×Nat)}{clock:Nat}(ho:MpOk es clock){o:AV×AV×Nat→Bool}{ps:List (AV×AV×Nat)}{p:AV×AV×Nat}(hp:p∈es)(h:o p=false):pN es o (ps++[p])=pN es o ps:=by
 unfold pN
 refine List.filter_congr fun q hq=>?_
 simp only[List.map_append,List.map_cons,List.map_nil]
 by_cases e:q.2.2=p.2.2
 ·have:=aA0 ho hp hq e
  subst this
  simp[h]
 ·have e':(q.2.2==p.2.2)=false:=by simp[e]
  simp only[vJ,e',Bool.or_false]
theorem aQY{es:List (AV×AV×Nat)}{o:AV×AV×Nat→Bool}{ps:List (AV×AV×Nat)}:aCa (pN es o ps) (ps.map (·.2.2))=aCa es (ps.map (·.2.2)):=by
 unfold aCa pN
 rw[List.filter_filter]
 refine List.filter_congr fun q hq=>?_
 cases(ps.map (·.2.2)).contains q.2.2<;>simp
theorem aS9{es ps:List (AV×AV×Nat)}{o:AV×AV×Nat→Bool}(h:ps.Perm es):pN es o ps=es.filter fun q=> !o q:=by
 unfold pN
 refine List.filter_congr fun q hq=>?_
 have:(ps.map (·.2.2)).contains q.2.2=true:=by
  rw[List.contains_iff_mem]
  exact List.mem_map.2 ⟨q,h.mem_iff.2 hq,rfl⟩
 rw[this,Bool.true_and]
end Go.Aw
namespace Go.Gw
open Go Go.Aw Go.Proofs.YthhdnjiodklmmaaGreatDoor
def aUz(xs:List Int)(q:AV×AV×Nat):Bool:=match q.2.1 with
 |.agg (.int _ i::_)=>xs.contains i
 |_=>false
theorem aKm{m:List (Txt×Nd)}(h:(m.map (·.1)).Nodup):StrK (mT 0 m) where
 ki:=aAw 0 m
 nd:=by
  rw[aMP]
  induction m with
  |nil=>exact List.nodup_nil
  |cons p m ih=>
   rw[List.map_cons,List.nodup_cons]at h
   rw[List.map_cons,List.map_cons,List.nodup_cons]
   refine⟨fun hx=>?_,ih h.2⟩
   obtain⟨s,hs,e⟩:=List.mem_map.1 hx
   cases e
   exact h.1 hs
theorem aVg(xs:List Int):∀(b:Nat) (m:List (Txt×Nd)),((mT b m).filter fun q=> !aUz xs q).map (·.1)=((m.filter fun p=> !xs.contains p.2.id).map (·.1)).map AV.str:=by
 intro b m
 induction m generalizing b with
 |nil=>rfl
 |cons p m ih=>
  have e:aUz xs (AV.str p.1,ndA p.2,b)=xs.contains p.2.id:=rfl
  rw[mT,List.filter_cons,List.filter_cons,e]
  split
  ·rw[List.map_cons,ih];rfl
  ·exact ih _
theorem aVh{b:Nat}{m:List (Txt×Nd)}{q:AV×AV×Nat}(h:q∈mT b m):∃p∈m,q.1=.str p.1∧q.2.1=ndA p.2:=by
 induction m generalizing b with
 |nil=>cases h
 |cons p m ih=>
  rcases List.mem_cons.1 h with rfl|h
  ·exact⟨p,by simp,rfl,rfl⟩
  ·obtain⟨r,hr,e⟩:=ih h;exact⟨r,List.mem_cons_of_mem _ hr,e⟩
theorem aVi{b:Nat}{m:List (Txt×Nd)}{p:Txt×Nd}(h:p∈m):∃k,(AV.str p.1,ndA p.2,k)∈mT b m:=by
 induction m generalizing b with
 |nil=>cases h
 |cons x m ih=>
  rcases List.mem_cons.1 h with rfl|h
  ·exact⟨b,by simp[mT]⟩
  ·obtain⟨k,hk⟩:=ih (b:=b+1) h;exact⟨k,List.mem_cons_of_mem _ hk⟩
end Go.Gw
