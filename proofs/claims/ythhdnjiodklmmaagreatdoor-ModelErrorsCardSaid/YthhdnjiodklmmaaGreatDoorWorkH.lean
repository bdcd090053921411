/- The texts 8 of 8 beneath the rows of this seat (joined by program): the abstract machine, and what the functions answer. No condition. -/
import Derived.Test.YthhdnjiodklmmaaGreatDoorWorkG
set_option linter.unusedSimpArgs false
set_option linter.unusedVariables false
set_option linter.unusedSectionVars false
/- gunwalelaw19.ModelNew and ModelWrites are true. No condition. -/
namespace Go.Gw
open Go Go.Aw Go.Proofs.YthhdnjiodklmmaaGreatDoor
theorem aKA{m:Mdl}(h:MI m){c:Cal}(hk:c.kind=1∨c.kind=2)(h0:(doM m c).2.1.err=0):∃m2 o n,doM m c=(m2,an0,[o])∧m2.log.nodes.length=m.log.nodes.length+1∧(∀x∈m.log.nodes,x.id≠o.node∧x.parent≠o.node)∧childN m2.log.nodes o.parent o.name=some n∧n.id=o.node:=by
 obtain⟨dir,s,k⟩:=bE0 h hk h0
 have hl:(tellM m (putM m (bornO m c dir s))).log.nodes=m.log.nodes++[bornN m c dir s]:=k.nodes
 exact⟨_,_,bornN m c dir s,k.does,by rw[hl,List.length_append];rfl,k.new,by rw[hl];exact k.child,rfl⟩
end Go.Gw
namespace Go.Proofs.YthhdnjiodklmmaaGreatDoor
open Go Go.Aw Go.Gw
set_option linter.unusedSimpArgs false
set_option linter.unusedVariables false
set_option maxRecDepth 20000
set_option maxHeartbeats 4000000
theorem aG9(b:Bool)(l:List Cal)(path:Txt)(fl:Bool)(H:AHeap):cN Tryz.prog 7 [.sl b (l.map gY),.str path,.bool fl] H (.bool true):=by
 refine aQ Tryz.func7 rfl (Nat.le_of_ble_eq_true rfl) ?_
 have hfew:=jI b l 30
 have hnw:=nD 0
 obtain⟨m0,hm0⟩:∃m0,({md0 with rep:=0,next:=1}:Mdl)=m0:=⟨_,rfl⟩
 have hnew:wC 0=(m0,0):=by rw[←hm0];rfl
 have hmi0:=nA hnew
 rw[hnew]at hnw
 simp only[cO,jB]at hnw
 cases hfe:mE l 30 with
 |false=>
  rw[hfe]at hfew
  have ct0:=ct bS bN;have ct1:=ct hnw bD;have ct2:=ct hfew bA;repeat' first|((first|refine gK ?_|refine gS ?_);simp only[go_sem])|refine gA ?_|(refine gD (fun h=>?_) (fun h=>?_)<;>try exact aB h)|fail
  exact done (by simp only[go_sem]) (.refl _)
 |true=>
  rw[hfe]at hfew
  obtain⟨hcs,hl30⟩:=mF hfe
  by_cases hp:path.length≤1000
  ·have hpl:decide ((1000:Int)<(path.length:Int))=false:=decide_eq_false (by omega)
   have hall:=wP false false false false b m0 hmi0 l (by omega) hcs
   obtain⟨⟨m1,las⟩,hr1⟩:∃r,aCz m0 l=r:=⟨_,rfl⟩
   have hmi1:=aCL l hmi0
   rw[hr1]at hall hmi1
   simp only[cO,jB]at hall hmi1
   obtain⟨c,hc⟩:∃c,aF (bif fl then 1 else 2) path 0=c:=⟨_,rfl⟩
   have hck:c.kind=1∨c.kind=2:=by rw[←hc];cases fl<;>simp[aF]
   have hcc:CS c:=by rw[←hc];exact⟨by simp only[aF];omega,by simp[aF],by simp[aF]⟩
   have hdo:=iA false false false false m1 hmi1 c hcc
   by_cases he:(doM m1 c).2.1.err=0
   ·obtain⟨m2,o,n,q1,q2,q3,q4,q5⟩:=aKA hmi1 hck he
    have hcap:=hmi1.nodes.len
    have hch:=aDm false m2.log.nodes o.parent o.name (by omega)
    rw[q1]at hdo
    rw[q4]at hch
    simp only[zX,Option.map_some,Option.getD_some,Option.isSome_some,q5]at hch
    simp only[doV,cO,jB,iC,an0,←hc,gY,aF]at hdo
    have hq2:IntKind.i64.wrap ((m1.log.nodes.length:Int)+1)=(m2.log.nodes.length:Int):=by rw[wrap_i64 (by omega) (by omega)];omega
    cases fl
    all_goals
     simp only[cond_true,cond_false]at hdo
     have ct0:=ct bS bN;have ct1:=ct hnw bD;have ct2:=ct hfew bA;have ct3:=ct hall iI;have ct4:=ct hdo aJ;repeat' first|((first|refine gK ?_|refine gS ?_);simp only[go_sem,hpl,opA])|refine gA ?_|(refine gD (fun h=>?_) (fun h=>?_)<;>try exact aB h)|fail
     refine aR (ι:=Nat) (fun k=>[(7,.bool true),(8,.ref H.length 0 0),(11,.ref (H.length+2) 0 0),(13,.sl false [opA o]),(14,.int .i64 k)]) (fun _=>_) (fun k=>k≤m1.log.nodes.length) (fun k=>m1.log.nodes.length-k) 0 (Nat.zero_le _) ?_ rfl ?_
     ·simp[go_sem,opA]
     intro k hk
     by_cases hlt:k<m1.log.nodes.length
     ·have hgd:=bF ndA hlt
      simp only[ndA]at hgd
      obtain⟨d1,d2⟩:=q3 _ (List.getElem_mem hlt)
      have d1:=decide_eq_false d1
      have d2:=decide_eq_false d2
      have hli:decide ((k:Int)<(m1.log.nodes.length:Int))=true:=decide_eq_true (by omega)
      have hk0:((0:Int)≤(k:Int))=True:=eq_true (by omega)
      have hki:((k:Int)<(m1.log.nodes.length:Int))=True:=eq_true (by omega)
      repeat' first|(refine gS ?_;simp only[go_sem,hgd,hli,hlt,hki,hk0,d1,d2,opA])|refine gA ?_|(refine gD (fun h=>?_) (fun h=>?_)<;>try exact aB h)|fail
      exact⟨k+1,hlt,by omega,congrArg _ (bI hlt (by omega))⟩
     ·have hke:k=m1.log.nodes.length:=by omega
      subst hke
      have hli:decide ((m1.log.nodes.length:Int)<(m1.log.nodes.length:Int))=false:=by simp
      have ct0:=ct hch rQ;repeat' first|((first|refine gK ?_|refine gS ?_);simp only[go_sem,hli,opA,hq2])|refine gA ?_|(refine gD (fun h=>?_) (fun h=>?_)<;>try exact aB h)|fail
      exact done (by simp only[go_sem]) (.refl _)
   ·obtain⟨⟨m2,a2,o2⟩,hr2⟩:∃r,doM m1 c=r:=⟨_,rfl⟩
    rw[hr2]at hdo he
    simp only[doV,cO,jB,iC,←hc,gY,aF]at hdo he
    have de:decide (a2.err=0)=false:=decide_eq_false he
    cases fl
    all_goals
     simp only[cond_true,cond_false]at hdo
     have ct0:=ct bS bN;have ct1:=ct hnw bD;have ct2:=ct hfew bA;have ct3:=ct hall iI;have ct4:=ct hdo aJ;repeat' first|((first|refine gK ?_|refine gS ?_);simp only[go_sem,hpl,de])|refine gA ?_|(refine gD (fun h=>?_) (fun h=>?_)<;>try exact aB h)|fail
     exact done (by simp only[go_sem]) (.refl _)
  ·have hpl:decide ((1000:Int)<(path.length:Int))=true:=decide_eq_true (by omega)
   have ct0:=ct bS bN;have ct1:=ct hnw bD;have ct2:=ct hfew bA;repeat' first|((first|refine gK ?_|refine gS ?_);simp only[go_sem,hpl])|refine gA ?_|(refine gD (fun h=>?_) (fun h=>?_)<;>try exact aB h)|fail
   exact done (by simp only[go_sem]) (.refl _)
theorem aBq(b:Bool)(l:List Cal)(path data:Txt)(H:AHeap):cN Tryz.prog 6 [.sl b (l.map gY),.str path,.str data] H (.bool true):=by
 refine aQ Tryz.func6 rfl (Nat.le_of_ble_eq_true rfl) ?_
 have hfew:=jI b l 30
 have hnw:=nD 0
 obtain⟨m0,hm0⟩:∃m0,({md0 with rep:=0,next:=1}:Mdl)=m0:=⟨_,rfl⟩
 have hnew:wC 0=(m0,0):=by rw[←hm0];rfl
 have hmi0:=nA hnew
 rw[hnew]at hnw
 simp only[cO,jB]at hnw
 cases hfe:mE l 30 with
 |false=>
  rw[hfe]at hfew
  have ct0:=ct bS bN;have ct1:=ct hnw bD;have ct2:=ct hfew bA;repeat' first|((first|refine gK ?_|refine gS ?_);simp only[go_sem])|refine gA ?_|(refine gD (fun h=>?_) (fun h=>?_)<;>try exact aB h)|fail
  exact done (by simp only[go_sem]) (.refl _)
 |true=>
  rw[hfe]at hfew
  obtain⟨hcs,hl30⟩:=mF hfe
  by_cases hp:path.length≤1000
  ·have hpl:decide ((1000:Int)<(path.length:Int))=false:=decide_eq_false (by omega)
   by_cases hd:data.length≤1000
   ·have hdl:decide ((1000:Int)<(data.length:Int))=false:=decide_eq_false (by omega)
    have hall:=wP false false false false b m0 hmi0 l (by omega) hcs
    obtain⟨⟨m1,las⟩,hr1⟩:∃r,aCz m0 l=r:=⟨_,rfl⟩
    have hmi1:=aCL l hmi0
    rw[hr1]at hall hmi1
    simp only[cO,jB]at hall hmi1
    have hcc:∀k,CS (aF k path 0):=fun k=>⟨by simp only[aF];omega,by simp[aF],by simp[aF]⟩
    have h3:=iA false false false false m1 hmi1 ⟨3,path,[],data,0⟩ ⟨by simp only;omega,by simp,by simp only;omega⟩
    have hmi3:=nB hmi1 ⟨3,path,[],data,0⟩
    have w3:=aMg hmi1 (c:=⟨3,path,[],data,0⟩) rfl
    obtain⟨⟨m3,a3,o3⟩,r3⟩:∃r,doM m1 ⟨3,path,[],data,0⟩=r:=⟨_,rfl⟩
    rw[r3]at h3 hmi3 w3
    have h4:=iA false false false false m3 hmi3 (aF 4 path 0) (hcc _)
    obtain⟨⟨m4,a4,o4⟩,r4⟩:∃r,doM m3 (aF 4 path 0)=r:=⟨_,rfl⟩
    simp only[r4]at h4 w3
    have h2:=iA false false false false m1 hmi1 (aF 2 path 0) (hcc _)
    have hmi2:=nB hmi1 (aF 2 path 0)
    have w2:=aRl hmi1 (c:=aF 2 path 0) rfl
    obtain⟨⟨m2,a2,o2⟩,r2⟩:∃r,doM m1 (aF 2 path 0)=r:=⟨_,rfl⟩
    rw[r2]at h2 hmi2 w2
    have h7:=iA false false false false m2 hmi2 (aF 7 path 0) (hcc _)
    have h1:=iA false false false false m2 hmi2 (aF 1 path 0) (hcc _)
    obtain⟨⟨m7,a7,o7⟩,r7⟩:∃r,doM m2 (aF 7 path 0)=r:=⟨_,rfl⟩
    obtain⟨⟨m8,a8,o8⟩,r8⟩:∃r,doM m2 (aF 1 path 0)=r:=⟨_,rfl⟩
    rw[r7]at h7
    rw[r8]at h1
    have e2:(aF 2 path 0).path=path:=rfl
    simp only[e2,r7,r8]at w2
    simp only[doV,cO,jB,iC,gY,aF]at h1 h2 h3 h4 h7
    have w3':a3.err=0→a4.err=0∧a4.data=data:=fun e=>by have:=w3 e;rw[this];exact⟨rfl,rfl⟩
    have w2':a2.err=0→a7.err=0∧a7.names.length=0∧a8.err=190:=fun e=>by obtain⟨x,y⟩:=w2 e;rw[x,y];exact⟨rfl,rfl,rfl⟩
    have q3:(!decide (a3.err=0)||decide (a4.err=0)&&decide (a4.data=data))=true:=by
     by_cases x:a3.err=0
     ·obtain⟨p,q⟩:=w3' x;simp[p,q]
     ·simp[x]
    have q2:(!decide (a2.err=0)||decide (a7.err=0)&&decide ((a7.names.length:Int)=0)&&decide (a8.err=190))=true:=by
     by_cases x:a2.err=0
     ·obtain⟨p,q,r⟩:=w2' x;simp[p,q,r]
     ·simp[x]
    have ct0:=ct bS bN;have ct1:=ct hnw bD;have ct2:=ct hfew bA;have ct3:=ct hall iI;have ct4:=ct h1 aJ;have ct5:=ct h2 aJ;have ct6:=ct h3 aJ;have ct7:=ct h4 aJ;have ct8:=ct h7 aJ;repeat' first|((first|refine gK ?_|refine gS ?_);simp only[go_sem,hpl,hdl])|refine gA ?_|(refine gD (fun h=>?_) (fun h=>?_)<;>try exact aB h)|fail
    exact done (by simp only[go_sem]) (.of (by rw[q3,q2];rfl))
   ·have hdl:decide ((1000:Int)<(data.length:Int))=true:=decide_eq_true (by omega)
    have ct0:=ct bS bN;have ct1:=ct hnw bD;have ct2:=ct hfew bA;repeat' first|((first|refine gK ?_|refine gS ?_);simp only[go_sem,hpl,hdl])|refine gA ?_|(refine gD (fun h=>?_) (fun h=>?_)<;>try exact aB h)|fail
    exact done (by simp only[go_sem]) (.refl _)
  ·have hpl:decide ((1000:Int)<(path.length:Int))=true:=decide_eq_true (by omega)
   have ct0:=ct bS bN;have ct1:=ct hnw bD;have ct2:=ct hfew bA;repeat' first|((first|refine gK ?_|refine gS ?_);simp only[go_sem,hpl])|refine gA ?_|(refine gD (fun h=>?_) (fun h=>?_)<;>try exact aB h)|fail
   exact done (by simp only[go_sem]) (.refl _)
end Go.Proofs.YthhdnjiodklmmaaGreatDoor
/- What handles keep: snapshots and watches, call by call, in plain Lean. No condition. -/
namespace Go.Gw
open Go Go.Aw Go.Proofs.YthhdnjiodklmmaaGreatDoor
theorem aRB{r:Int}(h:r≠47):(47:UInt8)∉Lib.encodeRune r:=by
 unfold Lib.encodeRune
 intro hm
 obtain⟨x,hx,he⟩:=List.mem_map.1 hm
 have hx2:0≤x∧x<256∧x≠47:=by
  unfold Lib.encodeRuneZ at hx
  split at hx
  ·simp only[List.mem_cons,List.not_mem_nil,or_false]at hx;omega
  ·split at hx
   ·simp only[List.mem_cons,List.not_mem_nil,or_false]at hx;omega
   ·split at hx
    ·simp only[List.mem_cons,List.not_mem_nil,or_false]at hx;omega
    ·split at hx
     ·simp only[List.mem_cons,List.not_mem_nil,or_false]at hx;omega
     ·simp only[List.mem_cons,List.not_mem_nil,or_false]at hx;omega
 have h1:=congrArg UInt8.toNat he
 have h2:(x.toNat.toUInt8).toNat=x.toNat:=by
  rw[Nat.toUInt8_eq,UInt8.toNat_ofNat'];omega
 rw[h2]at h1
 simp at h1
 omega
theorem aEC{s:Txt}(h:jX s=true):(47:UInt8)∉s:=by
 unfold jX at h
 cases hs:lE s with
 |none=>rw[hs]at h;cases h
 |some l=>
  rw[hs]at h
  simp only at h
  have hb:l.any qJ=false:=by
   cases hc:(decide ((l.length:Int)<1)||decide (20<(l.length:Int))||decide (s=[46])||decide (s=[46,46]))with
   |true=>rw[hc]at h;cases h
   |false=>rw[hc]at h;simpa using h
  rw[(kN hs).1]
  intro hm
  obtain⟨r,hr,hx⟩:=List.mem_flatMap.1 hm
  refine aRB (fun e=>?_) hx
  have:=List.any_eq_false.1 hb r hr
  rw[e]at this
  exact this rfl
def NoS(l:List Nd):Prop:=∀n∈l,(47:UInt8)∉n.name
theorem aRC{l:List Nd}{o:Opn}(h:NoS l)(ho:opOk o=true):NoS (kX l o):=by
 cases hr:cA l o with
 |true=>intro n hn;rw[kX,if_pos hr]at hn;exact h n hn
 |false=>
  rw[kP hr]
  have hw:(47:UInt8)∉(fA l o).name:=by
   unfold fA
   split
   ·rename_i n hf;exact h n (bEz hf).1
   ·simp[nd0]
  intro n hn
  rcases aDt hn with rfl|hn
  ·unfold cJ
   split
   ·rename_i hk
    refine aEC ?_
    unfold opOk at ho
    simp only[Bool.and_eq_true]at ho
    have h4:=ho.2
    rw[if_pos (by simpa using hk)]at h4
    unfold yD at h4
    simp only[Bool.and_eq_true]at h4
    simp_all
   ·exact hw
  ·exact h n hn
theorem aED(s:List Opn){l:List Nd}(h:NoS l)(hs:∀o∈s,opOk o=true):NoS (s.foldl kX l):=by
 induction s generalizing l with
 |nil=>exact h
 |cons o s ih=>exact ih (aRC h (hs o (by simp)))fun o ho=>hs o (List.mem_cons_of_mem _ ho)
theorem MI.nos{m:Mdl}(h:MI m):NoS m.log.nodes:=by
 rw[aCK h.good]
 exact aED _ (fun n hn=>by cases hn) h.good.ok
theorem aRD{s t r r':Txt}(hs:(47:UInt8)∉s)(ht:(47:UInt8)∉t)(h1:r=[]∨∃q,r=47::q)(h2:r'=[]∨∃q,r'=47::q)(h:s++r=t++r'):s=t:=by
 induction s generalizing t with
 |nil=>
  cases t with
  |nil=>rfl
  |cons c t=>
   rcases h1 with rfl|⟨q,rfl⟩
   ·simp at h
   ·simp only[List.nil_append,List.cons_append,List.cons.injEq]at h
    exact absurd (by rw[←h.1];exact .head _) ht
 |cons c s ih=>
  cases t with
  |nil=>
   rcases h2 with rfl|⟨q,rfl⟩
   ·simp at h
   ·simp only[List.nil_append,List.cons_append,List.cons.injEq]at h
    exact absurd (by rw[h.1];exact .head _) hs
  |cons d t=>
   simp only[List.cons_append,List.cons.injEq]at h
   rw[h.1,ih (fun hm=>hs (.tail _ hm)) (fun hm=>ht (.tail _ hm)) h.2]
theorem aEE{l:List Nd}{dir:Int}{s:Txt}(h:s∈(dS l dir).map (·.1)):∃n∈l,n.name=s:=by
 obtain⟨p,hp,rfl⟩:=List.mem_map.1 h
 have hn:=(nP l dir).2 p hp
 have key:∀(l':List Nd) (m:List (Txt×Nd)),(∀q∈m,q.2∈l)→(∀n∈l',n∈l)→∀q∈l'.foldl (rX dir) m,q.2∈l:=by
  intro l'
  induction l' with
  |nil=>intro m h _;exact h
  |cons n l' ih=>
   intro m h hl
   rw[List.foldl_cons]
   refine ih _ (fun q hq=>?_)fun x hx=>hl x (List.mem_cons_of_mem _ hx)
   unfold rX at hq
   split at hq
   ·unfold zM at hq
    have aD:∀(s:Txt) (m:List (Txt×Nd)),(∀q∈m,q.2∈l)→∀q∈jA s n m,q.2∈l:=by
     intro s m
     induction m with
     |nil=>intro _ q hq;rw[jA,List.mem_singleton]at hq;subst hq;exact hl n (by simp)
     |cons p m ihm=>
      intro h q hq
      rw[jA]at hq
      split at hq
      ·cases hq with
       |head=>exact hl n (by simp)
       |tail _ hq=>exact h q (.tail _ hq)
      ·cases hq with
       |head=>exact h _ (.head _)
       |tail _ hq=>exact ihm (fun q hq=>h q (.tail _ hq)) q hq
    repeat' split at hq
    all_goals first|exact aD _ _ h q hq|exact h q hq
   ·exact h q hq
 exact⟨p.2,key l [] (fun q hq=>by cases hq) (fun n hn=>hn) p hp,hn⟩
def Bel(path s:Txt)(x:Itm):Prop:=∃r,x.path=path++(47::(s++r))∧(r=[]∨∃q,r=47::q)
def uE(l:List Nd)(out:List Int)(k:Nat)(dir:Int)(path:Txt)(s:Txt):List Itm:=match fS s (dS l dir)with
 |some n=>⟨path++(47::s),n.id,n.data⟩::(if dirI n.id=true then iQ l out k n.id (path++(47::s))else[])
 |none=>[]
theorem aBr{l:List Nd}(hs:NoS l)(out:List Int):∀(k:Nat) (dir:Int) (path:Txt),(iQ l out k dir path).Pairwise (fun x y=>x.path≠y.path)∧∀x∈iQ l out k dir path,∃s,Bel path s x:=by
 intro k
 induction k with
 |zero=>intro dir path;exact⟨.nil,fun x hx=>by cases hx⟩
 |succ k ih=>
  intro dir path
  have hpc:∀s,(∀x∈uE l out k dir path s,Bel path s x)∧(uE l out k dir path s).Pairwise (fun x y=>x.path≠y.path):=by
   intro s
   unfold uE
   split
   ·rename_i n hn
    have hdeep:∀x∈(if dirI n.id=true then iQ l out k n.id (path++(47::s))else[]),∃t q,x.path=path++(47::(s++(47::(t++q)))):=by
     intro x hx
     split at hx
     ·obtain⟨t,q,e, -⟩:=(ih n.id (path++(47::s))).2 x hx
      exact⟨t,q,by rw[e];simp⟩
     ·cases hx
    refine⟨fun x hx=>?_,?_⟩
    ·cases hx with
     |head=>exact⟨[],by simp,.inl rfl⟩
     |tail _ hx=>
      obtain⟨t,q,e⟩:=hdeep x hx
      exact⟨47::(t++q),e,.inr ⟨_,rfl⟩⟩
    ·refine List.pairwise_cons.2 ⟨fun x hx e=>?_,?_⟩
     ·obtain⟨t,q,e'⟩:=hdeep x hx
      rw[e']at e
      have:=congrArg List.length e
      simp at this
     ·split
      ·exact(ih _ _).1
      ·exact .nil
   ·exact⟨fun x hx=>(by cases hx),.nil⟩
  have hst:iQ l out (k+1) dir path=(mY (((dS l dir).filter fun p=> !out.contains p.2.id).map (·.1))).flatMap (uE l out k dir path):=rfl
  have hno:∀s∈mY (((dS l dir).filter fun p=> !out.contains p.2.id).map (·.1)),(47:UInt8)∉s:=by
   intro s hm
   have hm':=(kA _).mem_iff.1 hm
   obtain⟨p,hp,rfl⟩:=List.mem_map.1 hm'
   obtain⟨n,hn,e⟩:=aEE (l:=l) (dir:=dir) (List.mem_map_of_mem (List.mem_filter.1 hp).1)
   rw[←e];exact hs n hn
  rw[hst]
  refine⟨List.pairwise_flatMap.2 ⟨fun s _=>(hpc s).2,?_⟩,fun x hx=>?_⟩
  ·have hnd:(mY (((dS l dir).filter fun p=> !out.contains p.2.id).map (·.1))).Nodup:=(kA _).nodup_iff.2 (wH (nP l dir).1 _)
   refine List.Pairwise.imp_of_mem (fun{s t} hs ht hne x hx y hy e=>?_) hnd
   obtain⟨r,e1,h1⟩:=(hpc s).1 x hx
   obtain⟨r',e2,h2⟩:=(hpc t).1 y hy
   rw[e1,e2]at e
   have:=List.append_cancel_left e
   simp only[List.cons.injEq,true_and]at this
   exact hne (aRD (hno s hs) (hno t ht) h1 h2 this)
  ·obtain⟨s,hs',hx⟩:=List.mem_flatMap.1 hx
   exact⟨s,(hpc s).1 x hx⟩
theorem yW{l:List Itm}(h:l.Pairwise fun x y=>x.path≠y.path){t:Itm}(ht:t∈l):lookI t.path l=some t:=by
 unfold lookI
 have key:∀{l:List Itm},l.Pairwise (fun x y=>x.path≠y.path)→t∈l→l.find? (fun x=>decide (x.path=t.path))=some t:=by
  intro l
  induction l with
  |nil=>intro _ h;cases h
  |cons x l ih=>
   intro hp ht
   rw[List.pairwise_cons]at hp
   rw[List.find?_cons]
   cases ht with
   |head=>simp
   |tail _ ht=>
    rw[decide_eq_false (hp.1 t ht)]
    exact ih hp.2 ht
 exact key (List.pairwise_reverse.2 (h.imp fun h e=>h e.symm)) (List.mem_reverse.2 ht)
theorem aEF{l:List Itm}(h:l.Pairwise fun x y=>x.path≠y.path):nY l l=[]:=by
 have h1:∀t∈l,aDi l t=false:=fun t ht=>by unfold aDi;rw[yW h ht];simp
 have h2:∀t∈l,aCy l t=false:=fun t ht=>by unfold aCy;rw[yW h ht];simp
 unfold nY
 rw[List.filter_eq_nil_iff.2 (fun t ht=>by rw[h1 t (List.mem_reverse.1 ht)];simp),List.filter_eq_nil_iff.2 (fun t ht=>by rw[h1 t ht];simp),List.filter_eq_nil_iff.2 (fun t ht=>by rw[h2 t ht];simp)]
 rfl
theorem aCR{l:List Nd}(h:NoS l)(dir:Int):nY (dJ l dir) (dJ l dir)=[]:=by
 refine aEF ?_
 unfold dJ
 split
 ·exact(aBr h _ _ _ _).1
 ·exact .nil
theorem aKB(e:List Evt)(over:Bool):lY e over []=(e,over):=by
 unfold lY
 cases over with
 |true=>rfl
 |false=>simp
theorem aEG{l:List Nd}(h:NoS l)(w:Wch):wB l l w=w:=by
 unfold wB
 rw[aCR h,aKB]
def wQ(m:Mdl)(c:Cal):Mdl:=if(doM m c).2.1.err=0 then(fQ c ⟨m,an0,[]⟩).2.m else m
theorem aKC{m:Mdl}{c:Cal}(h:MI m)(hc:chkC c=true)(hw:(fQ c ⟨m,an0,[]⟩).1=0):(fQ c ⟨m,an0,[]⟩).2.a.err=0∧((fQ c ⟨m,an0,[]⟩).2.ops=[]→(fQ c ⟨m,an0,[]⟩).2.m.log=m.log):=by
 have hs:=aYm h hc
 generalize fQ c ⟨m,an0,[]⟩=r at hs hw ⊢
 cases hs with
 |err e d he=>exact absurd hw he
 |put o hk hn ho ha=>exact⟨rfl,fun h=>by cases h⟩
 |keep m' a ha h1 h2 h3 h4=>exact⟨ha,fun _=>h1⟩
 |merge l hk hr hc'=>
  refine⟨rfl,fun h0=>?_⟩
  simp only at h0
  show(mergeM m l).log=m.log
  unfold mergeM
  simp only[h0]
  rfl
theorem aCS{m:Mdl}(h:MI m)(c:Cal):(doM m c).1.log=(wQ m c).log∧(doM m c).1.snaps=(wQ m c).snaps∧(doM m c).1.next=(wQ m c).next∧(doM m c).1.watches=(wQ m c).watches.map (wB m.log.nodes (doM m c).1.log.nodes):=by
 have hself:∀m':Mdl,m'.log=m.log→m'.watches=m'.watches.map (wB m.log.nodes m'.log.nodes):=fun m' e=>by
  rw[e,List.map_congr_left (g:=id)fun w _=>aEG h.nos w,List.map_id]
 unfold wQ
 cases hc:chkC c with
 |false=>
  have hd:doM m c=(m,errA 180,[]):=by unfold doM;rw[if_pos hc]
  rw[hd]
  rw[if_neg (show ¬(errA 180).err=0 by decide)]
  exact⟨rfl,rfl,rfl,hself m rfl⟩
 |true=>
  by_cases hw:(fQ c ⟨m,an0,[]⟩).1=0
  ·obtain⟨ha,hl⟩:=aKC h hc hw
   by_cases ho:(fQ c ⟨m,an0,[]⟩).2.ops=[]
   ·have hd:doM m c=((fQ c ⟨m,an0,[]⟩).2.m,(fQ c ⟨m,an0,[]⟩).2.a,[]):=by unfold doM;rw[if_neg (by rw[hc];simp),if_pos hw,if_pos ho]
    rw[hd]
    simp only
    rw[if_pos ha]
    exact⟨rfl,rfl,rfl,hself _ (hl ho)⟩
   ·have hd:doM m c=((aMe m.log.nodes (fQ c ⟨m,an0,[]⟩).2).m,(fQ c ⟨m,an0,[]⟩).2.a,(fQ c ⟨m,an0,[]⟩).2.ops):=by unfold doM;rw[if_neg (by rw[hc];simp),if_pos hw,if_neg ho]
    rw[hd]
    simp only
    rw[if_pos ha]
    exact⟨rfl,rfl,rfl,rfl⟩
  ·have hd:doM m c=(m,errA (fQ c ⟨m,an0,[]⟩).1,[]):=by unfold doM;rw[if_neg (by rw[hc];simp),if_neg hw]
   rw[hd]
   simp only
   rw[if_neg (show ¬(errA (fQ c ⟨m,an0,[]⟩).1).err=0 from hw)]
   exact⟨rfl,rfl,rfl,hself m rfl⟩
inductive HaS (m:Mdl) (c:Cal) (w:Mdl):Prop
 |same (h1:w.snaps=m.snaps) (h2:w.watches=m.watches) (h3:w.next=m.next)
 |snap (hk:c.kind=8) (h1:w.snaps=m.snaps++[⟨m.next,m.log.nodes⟩]) (h2:w.watches=m.watches) (h3:w.next=IntKind.i64.wrap (m.next+1))
 |drop (hk:c.kind=9) (h1:w.snaps=m.snaps.filter fun s=> !decide (s.n=c.n)) (h2:w.watches=m.watches.filter fun s=> !decide (s.n=c.n)) (h3:w.next=m.next)
 |watch (hk:c.kind=10) (dir:Int) (h1:w.snaps=m.snaps) (h2:w.watches=m.watches++[⟨m.next,dir,[],false⟩]) (h3:w.next=IntKind.i64.wrap (m.next+1))
 |poll (hk:c.kind=11) (h1:w.snaps=m.snaps) (h2:w.watches=emptyW c.n m.watches) (h3:w.next=m.next)
theorem nQ(d:Dsk)(o:Opn):(nT d o).2.m.snaps=d.m.snaps∧(nT d o).2.m.watches=d.m.watches∧(nT d o).2.m.next=d.m.next:=by
 unfold nT
 split<;>exact⟨rfl,rfl,rfl⟩
theorem nR(d:Dsk)(o:Opn):(vY d o).2.m.snaps=d.m.snaps∧(vY d o).2.m.watches=d.m.watches∧(vY d o).2.m.next=d.m.next:=by
 unfold vY
 split
 ·split
  ·exact nQ _ _
  ·exact nQ _ _
 ·exact⟨rfl,rfl,rfl⟩
theorem wR:∀(l:List Opn) (d:Dsk),(nZ d l).2.m.snaps=d.m.snaps∧(nZ d l).2.m.watches=d.m.watches∧(nZ d l).2.m.next=d.m.next
 |[],d=>⟨rfl,rfl,rfl⟩
 |o::l,d=>by
  rw[nZ]
  split
  ·obtain⟨a1,a2,a3⟩:=wR l (nT d o).2
   obtain⟨b1,b2,b3⟩:=nQ d o
   exact⟨a1.trans b1,a2.trans b2,a3.trans b3⟩
  ·exact nQ _ _
theorem sH(m:Mdl)(c:Cal):HaS m c (wQ m c):=by
 unfold wQ
 split
 ·rename_i h0
  obtain⟨hc,hw⟩:=aKm h0
  have hk:=bCg hc
  have hsame:∀{d:Dsk},d.m.snaps=m.snaps∧d.m.watches=m.watches∧d.m.next=m.next→HaS m c d.m:=fun h=>.same h.1 h.2.1 h.2.2
  unfold fQ
  by_cases k1:c.kind=1∨c.kind=2
  ·rw[if_pos k1]
   refine hsame ?_
   unfold aMc
   repeat' split
   all_goals first|exact⟨rfl,rfl,rfl⟩|exact nR _ _
  rw[if_neg k1]
  by_cases k3:c.kind=3
  ·rw[if_pos k3]
   refine hsame ?_
   unfold aGv
   repeat' split
   all_goals first|exact⟨rfl,rfl,rfl⟩|exact nR _ _
  rw[if_neg k3]
  by_cases k4:c.kind=4
  ·rw[if_pos k4]
   refine hsame ?_
   unfold vZ
   repeat' split
   all_goals exact⟨rfl,rfl,rfl⟩
  rw[if_neg k4]
  by_cases k5:c.kind=5
  ·rw[if_pos k5]
   refine hsame ?_
   unfold aMd
   repeat' split
   all_goals first|exact⟨rfl,rfl,rfl⟩|exact nR _ _
  rw[if_neg k5]
  by_cases k6:c.kind=6
  ·rw[if_pos k6]
   refine hsame ?_
   unfold aDj
   repeat' split
   all_goals first|exact⟨rfl,rfl,rfl⟩|exact nR _ _
  rw[if_neg k6]
  by_cases k7:c.kind=7
  ·rw[if_pos k7]
   refine hsame ?_
   unfold lsD
   repeat' split
   all_goals exact⟨rfl,rfl,rfl⟩
  rw[if_neg k7]
  by_cases k8:c.kind=8
  ·rw[if_pos k8]
   unfold yK
   split
   ·exact .same rfl rfl rfl
   ·exact .snap k8 rfl rfl rfl
  rw[if_neg k8]
  by_cases k9:c.kind=9
  ·rw[if_pos k9]
   unfold wA
   split
   ·exact .same rfl rfl rfl
   ·exact .drop k9 rfl rfl rfl
  rw[if_neg k9]
  by_cases k10:c.kind=10
  ·rw[if_pos k10]
   unfold sB
   repeat' split
   all_goals first|exact .same rfl rfl rfl|exact .watch k10 _ rfl rfl rfl
  rw[if_neg k10]
  by_cases k11:c.kind=11
  ·rw[if_pos k11]
   unfold aA4
   split
   ·exact .same rfl rfl rfl
   ·exact .poll k11 rfl rfl rfl
  rw[if_neg k11]
  by_cases k12:c.kind=12
  ·rw[if_pos k12]
   exact .same rfl rfl rfl
  rw[if_neg k12]
  refine hsame ?_
  unfold aGw
  repeat' split
  all_goals first|exact⟨rfl,rfl,rfl⟩|exact wR _ _
 ·exact .same rfl rfl rfl
structure HI (q:Int) (m:Mdl):Prop where
 lo:1≤m.next
 hi:m.next≤q
 snap:∀s∈m.snaps,s.n<m.next
 watch:∀w∈m.watches,w.n<m.next
theorem aDF(n:Int):∀(l:List Wch),∀w∈emptyW n l,∃v∈l,v.n=w.n
 |[],w,h=>by cases h
 |v::l,w,h=>by
  rw[emptyW]at h
  split at h
  ·cases h with
   |head=>exact⟨v,.head _,rfl⟩
   |tail _ h=>exact⟨w,.tail _ h,rfl⟩
  ·cases h with
   |head=>exact⟨_,.head _,rfl⟩
   |tail _ h=>obtain⟨u,hu,e⟩:=aDF n l w h;exact⟨u,.tail _ hu,e⟩
theorem bCs{q:Int}{m:Mdl}(h:MI m)(k:HI q m)(hq:q≤1000000)(c:Cal):HI (q+1) (doM m c).1:=by
 obtain⟨-,e2,e3,e4⟩:=aCS h c
 have lo:=k.lo
 have hi:=k.hi
 have hw:IntKind.i64.wrap (m.next+1)=m.next+1:=wrap_i64 (by omega) (by omega)
 have ht:∀w∈(doM m c).1.watches,∃v∈(wQ m c).watches,v.n=w.n:=fun w hm=>by
  rw[e4]at hm
  obtain⟨v,hv,rfl⟩:=List.mem_map.1 hm
  exact⟨v,hv,rfl⟩
 have fin:∀(n:Int),(wQ m c).next=n→1≤n→n≤q+1→(∀s∈(wQ m c).snaps,s.n<n)→(∀w∈(wQ m c).watches,w.n<n)→HI (q+1) (doM m c).1:=fun n hn a b hs hw=>
  ⟨by rw[e3,hn];exact a,by rw[e3,hn];exact b,fun s hm=>by rw[e3,hn];rw[e2]at hm;exact hs s hm,fun w hm=>by rw[e3,hn];obtain⟨v,hv,e⟩:=ht w hm;rw[←e];exact hw v hv⟩
 cases sH m c with
 |same h1 h2 h3=>exact fin _ h3 lo (by omega) (fun s hs=>k.snap s (h1▸hs)) (fun w hw=>k.watch w (h2▸hw))
 |snap hk h1 h2 h3=>
  rw[hw]at h3
  refine fin _ h3 (by omega) (by omega) (fun s hs=>?_) (fun w hw=>by have:=k.watch w (h2▸hw);omega)
  rw[h1,List.mem_append,List.mem_singleton]at hs
  rcases hs with hs|rfl
  ·have:=k.snap s hs;omega
  ·simp only;omega
 |drop hk h1 h2 h3=>exact fin _ h3 lo (by omega) (fun s hs=>k.snap s (List.mem_filter.1 (h1▸hs)).1) (fun w hw=>k.watch w (List.mem_filter.1 (h2▸hw)).1)
 |watch hk dir h1 h2 h3=>
  rw[hw]at h3
  refine fin _ h3 (by omega) (by omega) (fun s hs=>by have:=k.snap s (h1▸hs);omega) (fun w hw=>?_)
  rw[h2,List.mem_append,List.mem_singleton]at hw
  rcases hw with hw|rfl
  ·have:=k.watch w hw;omega
  ·simp only;omega
 |poll hk h1 h2 h3=>exact fin _ h3 lo (by omega) (fun s hs=>k.snap s (h1▸hs)) (fun w hw=>by rw[h2]at hw;obtain⟨v,hv,e⟩:=aDF _ _ w hw;rw[←e];exact k.watch v hv)
theorem aCT:∀(l:List Cal) {q:Int} {m:Mdl},MI m→HI q m→q+l.length≤1000000→HI (q+l.length) (aCz m l).1
 |[],q,m,h,k,_=>by
  show HI (q+((0:Nat):Int)) m
  simpa using k
 |c::l,q,m,h,k,hq=>by
  simp only[List.length_cons]at hq ⊢
  have:=aCT l (nB h c) (bCs h k (by omega) c) (by omega)
  rw[show q+((l.length+1:Nat):Int)=q+1+(l.length:Int)by omega]
  exact this
def KeepS(h:Int)(l:List Nd)(m:Mdl):Prop:=m.snaps.find? (fun s=>decide (s.n=h))=some ⟨h,l⟩
theorem bCt{m:Mdl}(hm:MI m){h:Int}{l:List Nd}(k:KeepS h l m){c:Cal}(hn:¬(c.kind=9∧c.n=h)):KeepS h l (doM m c).1:=by
 unfold KeepS at *
 rw[(aCS hm c).2.1]
 cases sH m c with
 |same h1 h2 h3=>rw[h1];exact k
 |snap hk h1 h2 h3=>rw[h1,List.find?_append,k];rfl
 |drop hk h1 h2 h3=>
  rw[h1,List.find?_filter,←k]
  congr 1
  funext s
  by_cases e:s.n=h
  ·have:¬s.n=c.n:=fun e'=>hn ⟨hk,by rw[←e',e]⟩
   simp[e,show ¬h=c.n from fun e'=>this (e.trans e')]
  ·simp[e]
 |watch hk dir h1 h2 h3=>rw[h1];exact k
 |poll hk h1 h2 h3=>rw[h1];exact k
def KeepW(h dir:Int)(q:List Evt×Bool)(m:Mdl):Prop:=m.watches.find? (fun s=>decide (s.n=h))=some ⟨h,dir,q.1,q.2⟩
theorem wS{n h:Int}(hne:n≠h):∀(l:List Wch),(emptyW n l).find? (fun s=>decide (s.n=h))=l.find? (fun s=>decide (s.n=h))
 |[]=>rfl
 |w::l=>by
  rw[emptyW]
  split
  ·rename_i e
   rw[List.find?_cons,List.find?_cons]
   simp[show ¬w.n=h from fun e'=>hne (e.symm.trans e')]
  ·rw[List.find?_cons,List.find?_cons,wS hne l]
theorem tI{h dir:Int}{e:List Evt}{o:Bool}:∀{l:List Wch},l.find? (fun s=>decide (s.n=h))=some ⟨h,dir,e,o⟩→(emptyW h l).find? (fun s=>decide (s.n=h))=some ⟨h,dir,[],o⟩
 |[],k=>by cases k
 |w::l,k=>by
  rw[emptyW]
  split
  ·rename_i e1
   rw[List.find?_cons]at k ⊢
   simp only[e1,decide_true]at k ⊢
   cases k
   rfl
  ·rename_i e1
   rw[List.find?_cons]at k ⊢
   simp only[e1,decide_false]at k ⊢
   exact tI k
theorem aEH{h dir:Int}{q:List Evt×Bool}{l:List Wch}(a b:List Nd)(k:l.find? (fun s=>decide (s.n=h))=some ⟨h,dir,q.1,q.2⟩):(l.map (wB a b)).find? (fun s=>decide (s.n=h))=some ⟨h,dir,(lY q.1 q.2 (nY (dJ a dir) (dJ b dir))).1,(lY q.1 q.2 (nY (dJ a dir) (dJ b dir))).2⟩:=by
 rw[List.find?_map]
 have:((fun s:Wch=>decide (s.n=h))∘wB a b)=fun s=>decide (s.n=h):=rfl
 rw[this,k]
 rfl
theorem bCu{m:Mdl}(hm:MI m){h dir:Int}{q:List Evt×Bool}(k:KeepW h dir q m){c:Cal}(hn:¬((c.kind=9∨c.kind=11)∧c.n=h)):
  KeepW h dir (lY q.1 q.2 (nY (dJ m.log.nodes dir) (dJ (doM m c).1.log.nodes dir))) (doM m c).1:=by
 unfold KeepW at *
 rw[(aCS hm c).2.2.2]
 refine aEH _ _ ?_
 cases sH m c with
 |same h1 h2 h3=>rw[h2];exact k
 |snap hk h1 h2 h3=>rw[h2];exact k
 |drop hk h1 h2 h3=>
  rw[h2,List.find?_filter,←k]
  congr 1
  funext s
  by_cases e:s.n=h
  ·have:¬s.n=c.n:=fun e'=>hn ⟨.inl hk,by rw[←e',e]⟩
   simp[e,show ¬h=c.n from fun e'=>this (e.trans e')]
  ·simp[e]
 |watch hk d h1 h2 h3=>rw[h2,List.find?_append,k];rfl
 |poll hk h1 h2 h3=>rw[h2,wS (fun e=>hn ⟨.inr hk,e⟩)];exact k
theorem aBs{k:Int}{p:Txt}{n:Int}(hk:k=4∨k=7)(hn:0≤n):chkC (aF k p n)=kO p:=by
 unfold chkC aF
 rcases hk with rfl|rfl
 ·have hq:mA 4=some 9:=rfl
  simp only[hq]
  unfold mJ
  rw[if_neg (show ¬dZ .and .i64 9 1=0 by decide),if_pos (show dZ .and .i64 9 2=0 by decide),if_pos (show dZ .and .i64 9 4=0 by decide),if_neg (show ¬dZ .and .i64 9 8=0 by decide)]
  simp[hn]
 ·have hq:mA 7=some 9:=rfl
  simp only[hq]
  unfold mJ
  rw[if_neg (show ¬dZ .and .i64 9 1=0 by decide),if_pos (show dZ .and .i64 9 2=0 by decide),if_pos (show dZ .and .i64 9 4=0 by decide),if_neg (show ¬dZ .and .i64 9 8=0 by decide)]
  simp[hn]
theorem aBt{k:Int}{n:Int}(hk:k=9∨k=11)(hn:0≤n):chkC (aF k [] n)=true:=by
 unfold chkC aF
 rcases hk with rfl|rfl
 ·have hq:mA 9=some 8:=rfl
  simp only[hq]
  unfold mJ
  rw[if_pos (show dZ .and .i64 8 1=0 by decide),if_pos (show dZ .and .i64 8 2=0 by decide),if_pos (show dZ .and .i64 8 4=0 by decide),if_neg (show ¬dZ .and .i64 8 8=0 by decide)]
  simp[hn]
 ·have hq:mA 11=some 8:=rfl
  simp only[hq]
  unfold mJ
  rw[if_pos (show dZ .and .i64 8 1=0 by decide),if_pos (show dZ .and .i64 8 2=0 by decide),if_pos (show dZ .and .i64 8 4=0 by decide),if_neg (show ¬dZ .and .i64 8 8=0 by decide)]
  simp[hn]
def aRE(k:Int)(l:List Nd)(p:Txt):Ans:=
 if kO p=false then errA 180 else
 if(atN l p).2=0 then(if dirI (atN l p).1=true then(if k=4 then errA 82 else{an0 with names:=aGu l (atN l p).1})else(if k=4 then{an0 with data:=((findI l (atN l p).1).getD nd0).data}else errA 81))
 else errA (atN l p).2
theorem aHa{m:Mdl}{k:Int}{p:Txt}{n:Int}{l:List Nd}(hk:k=4∨k=7)(hn:0≤n)(hl:gN m n=some l):doM m (aF k p n)=(m,aRE k l p,[]):=by
 unfold doM aRE
 rw[aBs hk hn]
 cases hp:kO p with
 |false=>rw[if_pos rfl,if_pos rfl]
 |true=>
  have e0:¬(true=false):=by simp
  rw[if_neg e0,if_neg e0]
  rcases hk with rfl|rfl
  ·have hw:fQ (aF 4 p n) ⟨m,an0,[]⟩=vZ (aF 4 p n) ⟨m,an0,[]⟩:=by unfold fQ;rfl
   have hr:vZ (aF 4 p n) ⟨m,an0,[]⟩=if(atN l p).2=0 then(if dirI (atN l p).1=true then(82,⟨m,an0,[]⟩)else(0,⟨m,{an0 with data:=((findI l (atN l p).1).getD nd0).data},[]⟩))else((atN l p).2,⟨m,an0,[]⟩):=by
    unfold vZ
    rw[show gN (Dsk.mk m an0 []).m (aF 4 p n).n=some l from hl]
    rfl
   rw[hw,hr]
   by_cases h1:(atN l p).2=0
   ·by_cases h2:dirI (atN l p).1=true<;>simp[h1,h2,errA,an0]
   ·simp[h1]
  ·have hw:fQ (aF 7 p n) ⟨m,an0,[]⟩=lsD (aF 7 p n) ⟨m,an0,[]⟩:=by unfold fQ;rfl
   have hr:lsD (aF 7 p n) ⟨m,an0,[]⟩=if(atN l p).2=0 then(if dirI (atN l p).1=true then(0,⟨m,{an0 with names:=aGu l (atN l p).1},[]⟩)else(81,⟨m,an0,[]⟩))else((atN l p).2,⟨m,an0,[]⟩):=by
    unfold lsD
    rw[show gN (Dsk.mk m an0 []).m (aF 7 p n).n=some l from hl]
    rfl
   rw[hw,hr]
   by_cases h1:(atN l p).2=0
   ·by_cases h2:dirI (atN l p).1=true<;>simp[h1,h2,errA,an0]
   ·simp[h1]
theorem aHb{m:Mdl}{k:Int}{p:Txt}{n:Int}(hk:k=4∨k=7)(hn:0≤n)(hl:gN m n=none):(doM m (aF k p n)).2.1.err=191∨(doM m (aF k p n)).2.1.err=180:=by
 unfold doM
 rw[aBs hk hn]
 cases hp:kO p with
 |false=>rw[if_pos rfl];exact .inr rfl
 |true=>
  rw[if_neg (by simp)]
  left
  rcases hk with rfl|rfl
  ·have hw:fQ (aF 4 p n) ⟨m,an0,[]⟩=(191,⟨m,an0,[]⟩):=by
    show vZ (aF 4 p n) ⟨m,an0,[]⟩=_
    unfold vZ
    rw[show gN (Dsk.mk m an0 []).m (aF 4 p n).n=none from hl]
   rw[hw];rfl
  ·have hw:fQ (aF 7 p n) ⟨m,an0,[]⟩=(191,⟨m,an0,[]⟩):=by
    show lsD (aF 7 p n) ⟨m,an0,[]⟩=_
    unfold lsD
    rw[show gN (Dsk.mk m an0 []).m (aF 7 p n).n=none from hl]
   rw[hw];rfl
theorem aKD{m:Mdl}(h:MI m):(doM m (aF 8 [] 0)=(m,errA 193,[])∧m.snaps.length=8)∨doM m (aF 8 [] 0)=({m with snaps:=m.snaps++[⟨m.next,m.log.nodes⟩],next:=IntKind.i64.wrap (m.next+1)},{an0 with n:=m.next},[]):=by
 have hc:chkC (aF 8 [] 0)=true:=rfl
 have hw:fQ (aF 8 [] 0) ⟨m,an0,[]⟩=yK ⟨m,an0,[]⟩:=rfl
 unfold doM
 rw[if_neg (by rw[hc];simp),hw]
 unfold yK
 simp only
 by_cases h8:(8:Int)≤(m.snaps.length:Int)
 ·rw[if_pos h8]
  exact .inl ⟨rfl,by have:=h.snaps;omega⟩
 ·rw[if_neg h8]
  exact .inr rfl
theorem aEI{q:Int}{m:Mdl}(k:HI q m)(n:Int):KeepS m.next m.log.nodes {m with snaps:=m.snaps++[⟨m.next,m.log.nodes⟩],next:=n}:=by
 unfold KeepS
 rw[List.find?_append]
 have:m.snaps.find? (fun s=>decide (s.n=m.next))=none:=List.find?_eq_none.2 fun s hs=>by have:=k.snap s hs;simp;omega
 rw[this]
 simp
theorem KeepS.nodes{m:Mdl}{h:Int}{l:List Nd}(k:KeepS h l m)(hh:1≤h):gN m h=some l:=by
 unfold gN
 rw[if_neg (by omega),k]
 rfl
theorem aKE{m:Mdl}{h:Int}{l:List Nd}(k:KeepS h l m)(hh:1≤h):∃z,doM m (aF 9 [] h)=(z,an0,[])∧gN z h=none:=by
 have hc:=aBt (k:=9) (n:=h) (.inl rfl) (by omega)
 have hw:fQ (aF 9 [] h) ⟨m,an0,[]⟩=wA (aF 9 [] h) ⟨m,an0,[]⟩:=rfl
 have ha:m.snaps.any (fun s=>decide (s.n=h))=true:=by
  rw[List.any_eq_true]
  exact⟨_,List.mem_of_find?_eq_some k,by simp⟩
 have hp:wA (aF 9 [] h) ⟨m,an0,[]⟩=(0,⟨{m with snaps:=m.snaps.filter fun s=> !decide (s.n=h),watches:=m.watches.filter fun s=> !decide (s.n=h)},an0,[]⟩):=by
  unfold wA
  rw[show(aF 9 [] h).n=h from rfl]
  simp only
  rw[if_neg (by rw[ha];simp)]
 unfold doM
 rw[if_neg (by rw[hc];simp),hw,hp]
 refine⟨_,rfl,?_⟩
 unfold gN
 rw[if_neg (by omega),List.find?_eq_none.2 fun s hs=>?_]
 ·rfl
 ·have:=(List.mem_filter.1 hs).2
  simpa using this
theorem aHc{m:Mdl}(h:MI m)(p:Txt)(h0:(doM m (aF 10 p 0)).2.1.err=0):∃dir,dirI dir=true∧doM m (aF 10 p 0)=({m with watches:=m.watches++[⟨m.next,dir,[],false⟩],next:=IntKind.i64.wrap (m.next+1)},{an0 with n:=m.next},[]):=by
 obtain⟨hc,hw0⟩:=aKm h0
 have hw:fQ (aF 10 p 0) ⟨m,an0,[]⟩=sB (aF 10 p 0) ⟨m,an0,[]⟩:=rfl
 unfold doM
 rw[hw]at hw0 ⊢
 rw[if_neg (by rw[hc];simp)]
 unfold sB at hw0 ⊢
 simp only at hw0 ⊢
 by_cases h1:(atN m.log.nodes (aF 10 p 0).path).2=0
 ·rw[if_pos h1]at hw0 ⊢
  by_cases h2:dirI (atN m.log.nodes (aF 10 p 0).path).1=true
  ·rw[if_pos h2]at hw0 ⊢
   by_cases h3:(8:Int)≤(m.watches.length:Int)
   ·rw[if_pos h3]at hw0;cases hw0
   ·rw[if_neg h3]
    exact⟨_,h2,rfl⟩
  ·rw[if_neg h2]at hw0;cases hw0
 ·rw[if_neg h1]at hw0;exact absurd hw0 h1
theorem aCU{q:Int}{m:Mdl}(k:HI q m)(dir n:Int):KeepW m.next dir ([],false) {m with watches:=m.watches++[⟨m.next,dir,[],false⟩],next:=n}:=by
 unfold KeepW
 rw[List.find?_append]
 have:m.watches.find? (fun s=>decide (s.n=m.next))=none:=List.find?_eq_none.2 fun s hs=>by have:=k.watch s hs;simp;omega
 rw[this]
 simp
theorem aDG{m:Mdl}{h dir:Int}{q:List Evt×Bool}(k:KeepW h dir q m)(hh:0≤h):doM m (aF 11 [] h)=({m with watches:=emptyW h m.watches},{an0 with events:=q.1},[]):=by
 have hc:=aBt (k:=11) (n:=h) (.inr rfl) hh
 have hw:fQ (aF 11 [] h) ⟨m,an0,[]⟩=aA4 (aF 11 [] h) ⟨m,an0,[]⟩:=rfl
 have hp:aA4 (aF 11 [] h) ⟨m,an0,[]⟩=(0,⟨{m with watches:=emptyW h m.watches},{an0 with events:=q.1},[]⟩):=by
  unfold aA4
  rw[show(aF 11 [] h).n=h from rfl]
  simp only
  rw[show m.watches.find? (fun w=>decide (w.n=h))=_ from k]
 unfold doM
 rw[if_neg (by rw[hc];simp),hw,hp]
 rfl
theorem aEJ{m:Mdl}{h dir:Int}{q:List Evt×Bool}(k:KeepW h dir q m):KeepW h dir ([],q.2) {m with watches:=emptyW h m.watches}:=tI k
theorem KeepW.len{m:Mdl}{h dir:Int}{q:List Evt×Bool}(k:KeepW h dir q m)(hm:MI m):q.1.length≤9∧(q.2=false→q.1.length≤8):=(hm.watch _ (List.mem_of_find?_eq_some k)).2
end Go.Gw
/- A list turned; replicas that do not merge: in plain Lean. No condition. -/
namespace Go.Gw
open Go Go.Aw Go.Proofs.YthhdnjiodklmmaaGreatDoor
def mK(ops:List Opn)(f j:Nat):List Opn:=(List.range j).map fun i=>ops.getD ((i+f) % ops.length) ⟨st0,0,0,0,[],[]⟩
theorem kD(ops:List Opn)(f j:Nat):(mK ops f j).length=j:=by simp[mK]
theorem aEK(ops:List Opn)(f j:Nat):mK ops f (j+1)=mK ops f j++[ops.getD ((j+f) % ops.length) ⟨st0,0,0,0,[],[]⟩]:=by
 simp[mK,List.range_succ]
theorem yX(ops:List Opn)(f:Nat):(mK ops f ops.length).Perm ops:=by
 by_cases h0:ops.length=0
 ·rw[h0]
  have:ops=[]:=List.eq_nil_of_length_eq_zero h0
  subst this
  exact .refl _
 have hr:=Nat.mod_lt f (Nat.pos_of_ne_zero h0)
 have he:mK ops f ops.length=ops.drop (f % ops.length)++ops.take (f % ops.length):=by
  refine List.ext_getElem (by rw[kD,List.length_append,List.length_drop,List.length_take];omega)fun i h1 h2=>?_
  rw[kD]at h1
  have hm:(i+f) % ops.length=(i+f % ops.length) % ops.length:=(Nat.add_mod_mod ..).symm
  generalize f % ops.length=r at hr hm h2 ⊢
  have hL:(mK ops f ops.length)[i]'(by rw[kD];exact h1)=ops.getD ((i+f) % ops.length) ⟨st0,0,0,0,[],[]⟩:=by simp[mK]
  rw[hL,hm]
  by_cases hc:i+r<ops.length
  ·rw[Nat.mod_eq_of_lt hc,List.getD_eq_getElem?_getD,List.getElem?_eq_getElem hc,Option.getD_some,List.getElem_append_left (by rw[List.length_drop];omega),List.getElem_drop]
   congr 1;omega
  ·have hm2:(i+r) % ops.length=i+r-ops.length:=by rw[Nat.mod_eq_sub_mod (by omega),Nat.mod_eq_of_lt (by omega)]
   rw[hm2,List.getD_eq_getElem?_getD,List.getElem?_eq_getElem (show i+r-ops.length<ops.length by omega),Option.getD_some,List.getElem_append_right (by rw[List.length_drop];omega),List.getElem_take]
   congr 1
   rw[List.length_drop];omega
 rw[he]
 have:=List.perm_append_comm (l₁:=ops.drop (f % ops.length)) (l₂:=ops.take (f % ops.length))
 rwa[List.take_append_drop]at this
theorem aRF{m:Mdl}(h:MI m){c:Cal}(hk:c.kind≠13):(doM m c).1.rep=m.rep∧(doM m c).2.2.length≤1∧∀o∈(doM m c).2.2,o.at_.r=m.rep:=by
 have hs:=aBj h c
 generalize doM m c=r at hs ⊢
 cases hs with
 |err e he=>exact⟨rfl,Nat.zero_le _,fun o ho=>by cases ho⟩
 |put o hk hn ho ha=>exact⟨rfl,Nat.le_refl _,fun x hx=>by rw[List.mem_singleton]at hx;subst hx;rw[ha]⟩
 |keep m' a ha h1 h2 h3 h4=>exact⟨h3,Nat.zero_le _,fun o ho=>by cases ho⟩
 |merge l hk' hr hc=>exact absurd hk' hk
structure Own (m:Mdl) (r:Int) (n:Nat) (ops:List Opn):Prop where
 mi:MI m
 oi:OI m ops
 rep:m.rep=r
 len:ops.length≤n
 all:∀o∈ops,o.at_.r=r
theorem aHd{m:Mdl}{r:Int}{n:Nat}{ops:List Opn}(h:Own m r n ops){c:Cal}(hk:c.kind≠13):∃ops',Own (doM m c).1 r (n+1) ops':=by
 obtain⟨h1,h2,h3⟩:=aRF h.mi hk
 refine⟨ops++(doM m c).2.2,nB h.mi c,bCi h.mi h.oi c,h1.trans h.rep,by rw[List.length_append];have:=h.len;omega,fun o ho=>?_⟩
 rcases List.mem_append.1 ho with ho|ho
 ·exact h.all o ho
 ·rw[h3 o ho,h.rep]
theorem aHe{m n:Mdl}{a b:Nat}{p q:List Opn}(h:Own m 1 a p)(k:Own n 2 b q)(hab:a+b≤200):
  (jH m (opsG n.log)).log=(jH n (opsG m.log)).log∧(jH m (opsG n.log)).seen=(jH n (opsG m.log)).seen:=by
 have h1:=h.len
 have h2:=k.len
 refine bDE h.mi h.oi k.mi k.oi (fun x hx y hy e=>?_) (by omega)
 have e1:=h.all x hx
 have e2:=k.all y hy
 rw[e,e2]at e1
 cases e1
theorem aHf{g:Lg}(hg:Good g)(hl:g.entries.length≤200):NsI 1048576 g.nodes:=by
 have h2:(opsG g).length≤200:=by rw[opsG,List.length_map];exact hl
 rw[aCK hg]
 refine⟨aEv _ aKi,?_,aYk _ (fun n hn=>by cases hn)fun o ho=>⟨hg.ok o ho,(aRj (hg.ok o ho)).2.1⟩⟩
 have:=aRk (opsG g) []
 simp only[List.length_nil]at *
 omega
theorem aKF{m n:Mdl}{r t:Int}{a b:Nat}{p q:List Opn}(h:Own m r a p)(k:Own n t b q)(hne:r≠t)(hab:a+b≤200):(jH m (opsG n.log)).log.entries.length≤200:=by
 have ap:(opsG n.log).Pairwise (fun a b=>a.at_≠b.at_):=k.mi.good.srt.imp fun hl e=>by
  rw[e]at hl;rw[nO]at hl;cases hl
 have h1:=h.len
 have h2:=k.len
 have h3:=h.oi.len
 have h4:=k.oi.len
 obtain⟨-,a2⟩:=aKl (opsG n.log) h.mi.good k.mi.good.ok ap (fun o ho x hx e=>by
  have e1:=h.all x ((h.oi.mem x).1 hx)
  have e2:=k.all o ((k.oi.mem o).1 ho)
  rw[e,e2]at e1
  exact hne e1.symm) (by rw[wI];omega)
 show(lV m.log (opsG n.log)).entries.length≤200
 rw[a2,wI];omega
end Go.Gw
