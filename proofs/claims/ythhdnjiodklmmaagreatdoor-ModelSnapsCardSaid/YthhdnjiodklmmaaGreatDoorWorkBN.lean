/- The texts 40 of 51 beneath the rows of this seat (joined by program): the abstract machine, and what the functions answer. No condition. -/
import Derived.Test.YthhdnjiodklmmaaGreatDoorWorkBL
set_option linter.unusedSimpArgs false
set_option linter.unusedVariables false
set_option linter.unusedSectionVars false
/- view.Items: what is seen below a directory, by its own steps. No condition but how many and how long. -/
namespace Go.Gw
open Go Go.Aw Go.Proofs.YthhdnjiodklmmaaGreatDoor
def itC(its:List Itm):List AV:=(its.map itA).flatMap AV.cells
theorem aVj(a:List Itm)(x:Itm):itC (a++[x])=itC a++[.str x.path,.int .i64 x.id,.str x.data]:=by
 simp[itC,itA,AV.cells]
theorem aVk(a:List Itm):(itC a).length=a.length * 3:=by
 induction a with
 |nil=>rfl
 |cons x a ih=>
  have:itC (x::a)=[.str x.path,.int .i64 x.id,.str x.data]++itC a:=by simp[itC,itA,AV.cells]
  rw[this,List.length_append,ih,List.length_cons]
  simp only[List.length_cons,List.length_nil]
  omega
def itH(G:AHeap)(h:Nat)(its:List Itm):AHeap:=aD (aD G (h+5) (.cells (its.length+1) (itC its))) (h+3) (.cells 0 [.osl 3 (h+5) (its.length+1) 0 its.length its.length])
theorem aTa(G:AHeap)(h:Nat)(a b:List Itm):itH (itH G h a) h b=itH G h b:=by
 unfold itH
 rw[kT (aD G (h+5) _) _ _ (show h+3≠h+5 by omega),cZ,cZ]
theorem aVl{G:AHeap}{h:Nat}(hh:h+5<G.length)(its:List Itm)(L:AHeap):itH (G++L) h its=itH G h its++L:=by
 unfold itH
 rw[bS hh,bS (by rw[aC];omega)]
theorem aVm(G:AHeap)(h:Nat)(its:List Itm):(itH G h its).length=G.length:=by unfold itH;rw[aC,aC]
theorem aCP{G:AHeap}{h j:Nat}{B:ABlk}(its:List Itm)(hj:hget G j=B)(h1:j≠h+3)(h2:j≠h+5):hget (itH G h its) j=B:=by
 unfold itH
 exact bB (bB hj (by omega) _) (by omega) _
structure IB (F:FuncId) (b:Bool) (l:List Nd) (oes:List (AV×AV×Nat)) (ocl h:Nat) (its:List Itm) (G:AHeap):Prop where
 b0:hget G h=.cells 0 [.sl b (l.map ndA)]
 b1:hget G (h+1)=.map oes ocl
 b2:hget G (h+2)=.cells 0 [.map (h+1)]
 b3:hget G (h+3)=.cells 0 [.osl 3 (h+5) (its.length+1) 0 its.length its.length]
 b4:hget G (h+4)=.cells 0 [.func (.func F) [] [.ref h 0 0,.ref (h+2) 0 0,.ref (h+3) 0 0,.ref (h+4) 0 0]]
 b5:hget G (h+5)=.cells (its.length+1) (itC its)
theorem IB.lt{F:FuncId}{b:Bool}{l:List Nd}{oes:List (AV×AV×Nat)}{ocl h:Nat}{its:List Itm}{G:AHeap}(k:IB F b l oes ocl h its G):h+5<G.length:=bI k.b5 trivial
theorem IB.app{F:FuncId}{b:Bool}{l:List Nd}{oes:List (AV×AV×Nat)}{ocl h:Nat}{its:List Itm}{G:AHeap}(k:IB F b l oes ocl h its G)(L:AHeap):IB F b l oes ocl h its (G++L):=
 ⟨aH k.b0 trivial L,aH k.b1 trivial L,aH k.b2 trivial L,aH k.b3 trivial L,aH k.b4 trivial L,aH k.b5 trivial L⟩
theorem IB.set{F:FuncId}{b:Bool}{l:List Nd}{oes:List (AV×AV×Nat)}{ocl h:Nat}{its:List Itm}{G:AHeap}(k:IB F b l oes ocl h its G){i:Nat}(hi:h+5<i)(X:ABlk):IB F b l oes ocl h its (aD G i X):=
 ⟨bB k.b0 (by omega) X,bB k.b1 (by omega) X,bB k.b2 (by omega) X,bB k.b3 (by omega) X,bB k.b4 (by omega) X,bB k.b5 (by omega) X⟩
theorem IB.put{F:FuncId}{b:Bool}{l:List Nd}{oes:List (AV×AV×Nat)}{ocl h:Nat}{its:List Itm}{G:AHeap}(k:IB F b l oes ocl h its G)(js:List Itm):IB F b l oes ocl h js (itH G h js):=
 ⟨aCP js k.b0 (by omega) (by omega),aCP js k.b1 (by omega) (by omega),aCP js k.b2 (by omega) (by omega),cV (by rw[aC];exact bI k.b3 trivial) _,aCP js k.b4 (by omega) (by omega),
  bB (cV k.lt _) (by omega) _⟩
theorem IB.own{F:FuncId}{b:Bool}{l:List Nd}{oes:List (AV×AV×Nat)}{ocl h:Nat}{its:List Itm}{G:AHeap}(k:IB F b l oes ocl h its G):itH G h its=G:=by
 unfold itH
 rw[gV k.b5 trivial,gV k.b3 trivial]
theorem aQZ(k n:Nat)(its:List Itm):ClB n (.cells k (itC its)):=fun x hx=>by
 unfold itC at hx
 rw[List.mem_flatMap]at hx
 obtain⟨y,hy,hx⟩:=hx
 obtain⟨t, -,rfl⟩:=List.mem_map.1 hy
 simp only[itA,AV.cells,List.mem_cons,List.not_mem_nil,or_false]at hx
 rcases hx with rfl|rfl|rfl
 ·exact .str _
 ·exact .int _ _
 ·exact .str _
theorem aUB{G:AHeap}{h n:Nat}(its:List Itm)(hn:h+5<n):∀(j:Nat) (b:ABlk),(itH G h its)[j]?=some b→G[j]?=some b∨ClB n b:=fun j b hj=>by
 rcases pD (n:=n) (b:=.cells 0 [.osl 3 (h+5) (its.length+1) 0 its.length its.length]) (fun x hx=>by rw[List.mem_singleton]at hx;subst hx;exact .osl _ _ _ _ _ _ (by omega)) j b hj with q|q
 ·exact pD (aQZ _ _ its) j b q
 ·exact .inr q
end Go.Gw
namespace Go.Proofs.YthhdnjiodklmmaaGreatDoor
open Go Go.Aw Go.Gw
set_option linter.unusedSimpArgs false
set_option linter.unusedVariables false
set_option maxRecDepth 20000
set_option maxHeartbeats 4000000
theorem aUC{b:Bool}{l:List Nd}(hc:chk l=true)(hw:Wfr l)(hl:l.length≤1073741824)(hn:SmN l){out:List Int}{oes:List (AV×AV×Nat)}(ho:OutOk out oes)(ocl u:Nat):
  ∀(k:Nat) (dir:Int) (path:Txt) (its:List Itm) (G:AHeap),dirI dir=true→l.length<k+dep l dir→path.length≤dep l dir * 1073741825→its.length+(blw l out dir path).length≤1073741824→
   IB 61 b l oes ocl u its G→
   ACalls Tryz.prog 61 [.int .i64 dir,.str path,.ref u 0 0,.ref (u+2) 0 0,.ref (u+3) 0 0,.ref (u+4) 0 0] G (fun v G'=>v=.tup []∧G'=itH G u (its++blw l out dir path)):=by
 intro k
 induction k with
 |zero=>intro dir path its G _ hk;have:=aCA hw dir;omega
 |succ k ih=>
 intro dir path its G hd hk hp hq hb
 refine fW Tryz.func61 rfl (Nat.le_of_ble_eq_true rfl) ?_
 have hlt:=hb.lt
 have a0:=hb.b0
 repeat' first|(refine gS ?_;simp only[go_sem,a0])|refine gA ?_|(refine gD (fun h=>?_) (fun h=>?_)<;>try exact aA h)|fail
 refine bE (aJo b l dir hl G) aBA ?_
 rintro v H' ⟨rfl,rfl⟩
 simp only[go_sem]
 obtain⟨es,hes⟩:∃es,es=mT 0 (dE l dir):=⟨_,rfl⟩
 obtain⟨cl,hcl⟩:∃n,n=(dE l dir).length:=⟨_,rfl⟩
 have hok:MpOk es cl:=by rw[hes,hcl];exact aQW _
 have hsk:StrK es:=by rw[hes];exact aKm (oG l dir).1
 rw[←hes,←hcl]
 repeat' first|(refine gS ?_;simp only[go_sem])|refine gA ?_|(refine gD (fun h=>?_) (fun h=>?_)<;>try exact aA h)|fail
 -- what is left out goes from the map
 refine iC (ι:=AHeap) (fun _=>[(1,.str path),(2,.ref u 0 0),(3,.ref (u+2) 0 0),(4,.ref (u+3) 0 0),(5,.ref (u+4) 0 0),(8,.map G.length)]) (fun L=>G++.map (es.filter fun q=> !aUz out q) cl::L) (fun _=>True) ?_ fun L0 _=>?_
 ·refine aP (ι:=List (AV×AV×Nat)×AHeap) (fun s=>[(1,.str path),(2,.ref u 0 0),(3,.ref (u+2) 0 0),(4,.ref (u+3) 0 0),(5,.ref (u+4) 0 0),(8,.map G.length),(19,.iter (G.length+1))]) (fun s=>G++.map (pN es (aUz out) s.1) cl::.miter G.length cl (s.1.map (·.2.2)) cl::s.2) (fun s=>Gone es s.1) (fun s=>es.length-s.1.length)
   ([],[]) ⟨fun p hp=>(by cases hp),(by simp)⟩ (by simp[go_sem]) (by rw[aS7];rfl) ?_
  rintro⟨ps,L⟩ hG
  simp only at hG ⊢
  have hokl:MpOk (pN es (aUz out) ps) cl:=hok.filter _
  have hskl:StrK (pN es (aUz out) ps):=hsk.filter _
  repeat' first|(refine gS ?_;simp only[go_sem])|refine gA ?_|(refine gD (fun h=>?_) (fun h=>?_)<;>try exact aA h)|fail
  refine⟨G.length+1,G.length,cl,ps.map (·.2.2),cl,pN es (aUz out) ps,cl,rfl,by simp only[go_sem],by simp only[go_sem],fun p hp=>⟨hokl.lt p hp,hokl.lt p hp⟩,fun he=>?_,fun p hp=>?_⟩
  ·simp only[go_sem]
   repeat' first|(refine gS ?_;simp only[go_sem])|refine gA ?_|(refine gD (fun h=>?_) (fun h=>?_)<;>try exact aA h)|fail
   rw[aQY]at he
   rw[aS9 (hG.perm hok he)]
   exact⟨.miter G.length cl (ps.map (·.2.2)) cl::L,rfl⟩
  ·have hpl:p∈pN es (aUz out) ps:=(List.mem_filter.1 hp).1
   have hp':=hp
   rw[aQY]at hp'
   obtain⟨hG2,hpe⟩:=hG.step hp'
   have g3:=hokl.ent hpl (ps.map (·.2.2))
   have hpm:=hpe
   rw[hes]at hpm
   obtain⟨⟨s,n⟩,hm,e1,e2⟩:=aVh hpm
   simp only at e1 e2
   simp only[go_sem]
   obtain⟨G2,hG2e⟩:∃G2,G++.map (pN es (aUz out) ps) cl::.miter G.length cl (ps.map (·.2.2)++[p.2.2]) cl::L=G2:=⟨_,rfl⟩
   have c0:hget G2 G.length=.map (pN es (aUz out) ps) cl:=by rw[←hG2e];simp only[go_sem]
   have c1:hget G2 (G.length+1)=.miter G.length cl (ps.map (·.2.2)++[p.2.2]) cl:=by rw[←hG2e];simp only[go_sem]
   have c2:hget G2 (u+2)=.cells 0 [.map (u+1)]:=by rw[←hG2e];exact(hb.app _).b2
   have c3:hget G2 (u+1)=.map oes ocl:=by rw[←hG2e];exact(hb.app _).b1
   have d0:=fM c0 trivial
   have d2:=aT c2 trivial
   have d3:=aT c3 trivial
   have d1:=aT c0 trivial
   have k1:keysIn .string (pN es (aUz out) ps)=True:=eq_true hskl.ki
   have k2:keysIn (.int .i64) oes=True:=eq_true ho.ki
   have hdel:=aQX hskl hokl hpl e1
   rw[hG2e]
   rw[e1]at g3
   rw[e2]at g3
   rw[e1,e2]
   have hat:=ho.at_ n.id
   have hoq:aUz out p=out.contains n.id:=by unfold aUz;rw[e2];rfl
   have hms:es.length-(ps++[p]).length<es.length-ps.length:=by
    have:=hG2.len
    simp only[List.length_append,List.length_cons,List.length_nil]at this ⊢
    omega
   by_cases hmem:n.id∈out
   ·rw[if_pos hmem]at hat
    obtain⟨⟨j,w⟩,hj,hw2⟩:=Option.map_eq_some_iff.1 hat
    simp only at hw2
    subst hw2
    have hyes:aUz out p=true:=by rw[hoq];simpa using hmem
    have hle:=aS8 (ps:=ps) hok hpe hyes
    rw[←hdel]at hle
    repeat' first|(refine gS ?_;simp only[go_sem,g3,c0,c1,c2,c3,d0,d1,d2,d3,k1,k2,hj,ndA])|refine gA ?_|(refine gD (fun h=>?_) (fun h=>?_)<;>try exact aA h)|fail
    refine⟨(ps++[p],L++[.cells 0 (ndA n).cells]),hG2,hms,?_⟩
    rw[hle,←hG2e]
    simp[aD,ndA,AV.cells]
   ·rw[if_neg hmem]at hat
    have hj:=Option.map_eq_none_iff.1 hat
    have hnot:aUz out p=false:=by rw[hoq];simpa using hmem
    have hle:=aUy (ps:=ps) hok hpe hnot
    repeat' first|(refine gS ?_;simp only[go_sem,g3,c0,c1,c2,c3,d0,d1,d2,d3,k1,k2,hj,ndA])|refine gA ?_|(refine gD (fun h=>?_) (fun h=>?_)<;>try exact aA h)|fail
    refine⟨(ps++[p],L++[.cells 0 (ndA n).cells]),hG2,hms,?_⟩
    rw[hle,←hG2e]
    simp[aD,ndA,AV.cells]
 -- the names in order
 have hokf:MpOk (es.filter fun q=> !aUz out q) cl:=hok.filter _
 have hkeys:(es.filter fun q=> !aUz out q).map (·.1)=(((dE l dir).filter fun p=> !out.contains p.2.id).map (·.1)).map AV.str:=by rw[hes];exact aVg out 0 _
 have hsm:SmL (((dE l dir).filter fun p=> !out.contains p.2.id).map (·.1)):=fun s hs=>by
  obtain⟨p,hp,rfl⟩:=List.mem_map.1 hs
  exact smN_keys hn dir _ (List.mem_map.2 ⟨p,(List.mem_filter.1 hp).1,rfl⟩)
 have hfl:(es.filter fun q=> !aUz out q).length≤1073741824:=by
  have h1:=List.length_filter_le (fun q=> !aUz out q) es
  have h2:es.length=(dE l dir).length:=by rw[hes,aU6]
  have h3:=seenN_len l dir
  omega
 repeat' first|(refine gS ?_;simp only[go_sem])|refine gA ?_|(refine gD (fun h=>?_) (fun h=>?_)<;>try exact aA h)|fail
 refine aV (rising_c hokf G.length hkeys hsm hfl _ (by simp only[go_sem])) aSJ ?_
 simp only[go_sem]
 show _
 obtain⟨ns,hns⟩:∃ns,ns=aCB l out dir:=⟨_,rfl⟩
 have hns':pL (((dE l dir).filter fun p=> !out.contains p.2.id).map (·.1))=ns:=by rw[hns];rfl
 rw[hns']
 repeat' first|(refine gS ?_;simp only[go_sem])|refine gA ?_|(refine gD (fun h=>?_) (fun h=>?_)<;>try exact aA h)|fail
 have hnl:ns.length≤1073741824:=by
  have h1:ns.length=(((dE l dir).filter fun p=> !out.contains p.2.id).map (·.1)).length:=by rw[hns];exact(mK _).length_eq
  have h2:=List.length_filter_le (fun p:Txt×Nd=> !out.contains p.2.id) (dE l dir)
  have h3:=seenN_len l dir
  rw[List.length_map]at h1
  omega
 obtain⟨es',hes'⟩:∃es',es'=es.filter fun q=> !aUz out q:=⟨_,rfl⟩
 have hsk':StrK es':=by rw[hes'];exact hsk.filter _
 have hstep:=aJJ hc hw out hd path
 rw[←hns]at hstep
 rw[←hes']
 refine aP (ι:=Nat×AHeap) (fun s=>[(1,.str path),(2,.ref u 0 0),(3,.ref (u+2) 0 0),(4,.ref (u+3) 0 0),(5,.ref (u+4) 0 0),(8,.map G.length),(32,.sl false (ns.map AV.str)),(33,.int .i64 ns.length),(34,.int .i64 s.1)])
  (fun s=>itH G u (its++(ns.take s.1).flatMap (aJI l out dir path))++.map es' cl::s.2) (fun s=>s.1≤ns.length) (fun s=>ns.length-s.1) (0,L0) (Nat.zero_le _) ?_ ?_ ?_
 ·simp[go_sem]
 ·rw[List.take_zero,List.flatMap_nil,List.append_nil,hb.own]
 rintro⟨i,L⟩ hi
 simp only at hi ⊢
 obtain⟨its2,hits2⟩:∃x,x=its++(ns.take i).flatMap (aJI l out dir path):=⟨_,rfl⟩
 rw[←hits2]
 obtain⟨G2,hG2e⟩:∃G2,itH G u its2++.map es' cl::L=G2:=⟨_,rfl⟩
 have hB:IB 61 b l oes ocl u its2 G2:=by rw[←hG2e];exact(hb.put its2).app _
 have c0:hget G2 G.length=.map es' cl:=by rw[←hG2e];exact uQ (aVm G u its2)
 rw[hG2e]
 by_cases hin:i<ns.length
 ·have hmem:ns[i]∈aCB l out dir:=by rw[←hns];exact List.getElem_mem hin
  obtain⟨n,hlk,hsm2,hno⟩:=aQC hmem
  have hnil:ns[i].length≤1073741824:=smN_keys hn dir _ (List.mem_map.2 ⟨(ns[i],n),hsm2,rfl⟩)
  obtain⟨q,hq'⟩:=aVi (b:=0) hsm2
  have hqe:(AV.str ns[i],ndA n,q)∈es':=by rw[hes',hes];exact List.mem_filter.2 ⟨hq',by unfold aUz;simpa[ndA]using hno⟩
  obtain⟨j,hj, -⟩:=hsk'.at_ hqe rfl
  simp only at hj
  have k1:keysIn .string es'=True:=eq_true hsk'.ki
  obtain⟨hpar,hnin, -⟩:=aDv hc hd hsm2
  have hdp:=yX hw hpar
  have hpl:(path.length+1)+ns[i].length≤dep l n.id * 1073741825:=by omega
  have htk:(ns.take (i+1)).flatMap (aJI l out dir path)=(ns.take i).flatMap (aJI l out dir path)++aJI l out dir path ns[i]:=by
   rw[List.take_succ_eq_append_getElem hin,List.flatMap_append,List.flatMap_singleton]
  have hpc:aJI l out dir path ns[i]=⟨path++(47::ns[i]),n.id,n.data⟩::(if dirI n.id=true then blw l out n.id (path++(47::ns[i]))else[]):=by unfold aJI;rw[hlk]
  have hsz:its2.length+(aJI l out dir path ns[i]).length≤1073741824:=by
   have h1:((ns.take (i+1)).flatMap (aJI l out dir path)).length≤(blw l out dir path).length:=by
    rw[hstep]
    conv=>rhs;rw[←List.take_append_drop (i+1) ns,List.flatMap_append,List.length_append]
    omega
   rw[htk,List.length_append]at h1
   rw[hits2,List.length_append]
   omega
  have hdl:=aCA hw n.id
  have r3:=aT hB.b3 trivial
  have r4:=aT hB.b4 trivial
  have r5:=aT hB.b5 trivial
  have w5:=fM hB.b5 trivial
  have l5:=hB.lt
  have r3':∀c L,hget (aD G2 (u+5) c++L) (u+3)=_:=fun c L=>aH (bB hB.b3 (by omega) c) trivial L
  have w3':∀c c' L,aD (aD G2 (u+5) c++L) (u+3) c'=aD (aD G2 (u+5) c) (u+3) c'++L:=fun c c' L=>bS (by rw[aC];omega) L c'
  have r4':∀c c' L,hget (aD (aD G2 (u+5) c) (u+3) c'++L) (u+4)=_:=fun c c' L=>aH (bB (bB hB.b4 (by omega) c) (by omega) c') trivial L
  have rn':∀c c' L,hget (aD (aD G2 (u+5) c) (u+3) c'++L) G2.length=L.getD 0 .gone:=fun c c' L=>uQ (by rw[aC,aC])
  have hcs:(itC its2).length=its2.length * 3:=aVk _
  have hq2:((its2.length+1) * 40≤140737488355328)=True:=eq_true (by rw[hpc]at hsz;simp only[List.length_cons]at hsz;omega)
  have hsp:cR [AV.osl 3 (u+5) (its2.length+1) 0 its2.length its2.length] 0 [.osl 3 (u+5) (its2.length+2) 0 (its2.length+1) (its2.length+1)]=[.osl 3 (u+5) (its2.length+2) 0 (its2.length+1) (its2.length+1)]:=rfl
  have hgd:(ns.map AV.str).getD i .top=.str ns[i]:=by simp[hin]
  have hq1:(∀e,e=AV.agg [.str (path++47::ns[i]),.int .i64 n.id,.str n.data]→e.cells.length=3)=True:=eq_true (fun e he=>by rw[he];rfl)
  obtain⟨x,hx⟩:∃x:Itm,x=⟨path++(47::ns[i]),n.id,n.data⟩:=⟨_,rfl⟩
  have hput:∀Y,aD (aD G2 (u+5) (.cells (its2.length+2) (itC its2++[.str (path++47::ns[i]),.int .i64 n.id,.str n.data]))) (u+3) (.cells 0 [.osl 3 (u+5) (its2.length+2) 0 (its2.length+1) (its2.length+1)])++Y=itH (G2++Y) u (its2++[x]):=fun Y=>by
   rw[aVl hB.lt,hx]
   unfold itH
   rw[aVj,List.length_append]
   rfl
  have hend:∀js Y,itH (G2++Y) u js=itH G u js++.map es' cl::(L++Y):=fun js Y=>by
   rw[aVl hB.lt,←hG2e,aVl (by rw[aVm];exact hlt),aTa]
   simp
  rw[←hx]at hpc
  have hms:ns.length-(i+1)<ns.length-i:=by omega
  cases hdn:dirI n.id with
  |false=>
   repeat' first|((first|refine cK (ct (uH _) dA) ?_|refine cP (ct (uH _) dA) ?_|refine cM (ct (uH _) dA) ?_|refine gS ?_);simp only[go_sem,c0,hgd,hj,k1,ndA,hin,hcs,hq1,hq2,hsp,r3,r4,r5,w5,r3',w3',r4',rn',hdn])|refine gA ?_|(refine gD (fun h=>?_) (fun h=>?_)<;>try exact aA h)|fail
   refine⟨(i+1,L++[.cells 0 (ndA n).cells]),hin,hms,congrArg _ (bD hin (by omega)),?_⟩
   rw[hput,hend,htk,hpc,hdn,if_neg (by simp),hits2,List.append_assoc]
   rfl
  |true=>
   repeat' first|((first|refine cK (ct (uH _) dA) ?_|refine cP (ct (uH _) dA) ?_|refine cM (ct (uH _) dA) ?_|refine gS ?_);simp only[go_sem,c0,hgd,hj,k1,ndA,hin,hcs,hq1,hq2,hsp,r3,r4,r5,w5,r3',w3',r4',rn',hdn])|refine gA ?_|(refine gD (fun h=>?_) (fun h=>?_)<;>try exact aA h)|fail
   rw[hput]
   have hB3:=(hB.app [.cells 0 [.int .i64 n.id,.int .i64 n.parent,.str n.name,.int .i64 n.moved.c,.int .i64 n.moved.r,.str n.data,.int .i64 n.wrote.c,.int .i64 n.wrote.r]]).put (its2++[x])
   rw[hpc,hdn,if_pos rfl,List.length_cons]at hsz
   refine mX (ih n.id (path++47::ns[i]) (its2++[x]) _ hdn (by omega) (by rw[List.length_append,List.length_cons];omega) (by rw[List.length_append,List.length_singleton];omega) hB3) aSI ?_
   rintro v H' ⟨rfl,rfl⟩
   rw[aTa]
   simp only[go_sem]
   repeat' first|(refine gS ?_;simp only[go_sem])|refine gA ?_|(refine gD (fun h=>?_) (fun h=>?_)<;>try exact aA h)|fail
   refine⟨(i+1,L++[.cells 0 (ndA n).cells]),hin,hms,congrArg _ (bD hin (by omega)),?_⟩
   rw[hend,htk,hpc,hdn,if_pos rfl,hits2,List.append_assoc]
   rfl
 ·have hie:i=ns.length:=by omega
  repeat' first|(refine gS ?_;simp only[go_sem,hin])|refine gA ?_|(refine gD (fun h=>?_) (fun h=>?_)<;>try exact aA h)|fail
  refine⟨itH G u its2,.map es' cl::L,.tup [],hG2e.symm,by rw[aVm];exact Nat.le_refl _,by rw[aVm];exact aUB its2 hlt,.cl _ (.tup _ fun _ _ hx=>by simp at hx),rfl,?_⟩
  rw[hits2,hie,List.take_length,hstep]
theorem aGf(b:Bool)(l:List Nd)(dir:Int)(hw:Wfr l)(hd:dirI dir=true)(hl:l.length≤1073741824)(hn:SmN l)(H:AHeap):cJ Tryz.prog 30 [.sl b (l.map ndA),.int .i64 dir] H (.sl false ((dD l dir).map itA)):=by
 refine aL Tryz.func30 rfl (Nat.le_of_ble_eq_true rfl) ?_
 unfold dD
 cases hs:chk l with
 |false=>
  rw[if_neg (by simp),List.map_nil]
  repeat' first|((first|refine cK (ct (bR _ _) aR) ?_|refine cP (ct (bR _ _) aR) ?_|refine cM (ct (bR _ _) aR) ?_|refine gS ?_);simp only[go_sem,hs])|refine gA ?_|(refine gD (fun h=>?_) (fun h=>?_)<;>try exact aA h)|fail
  exact done (by simp only[go_sem]) (.sl _ _)
 |true=>
  rw[if_pos rfl]
  have hab:=aJk b l dir hl
  obtain⟨up,hup⟩:∃up,up=nM l dir:=⟨_,rfl⟩
  rw[←hup]at hab
  have k0:keysIn (.int .i64) []=True:=eq_true (fun p hp=>by cases hp)
  have hul:up.length≤1073741824:=by
   rw[hup,nM,if_pos hs]
   exact Nat.le_trans (aBO hw _ _) hl
  have ct0:=ct hab aBB;repeat' first|((first|refine gK ?_|refine cK (ct (bR _ _) aR) ?_|refine cP (ct (bR _ _) aR) ?_|refine cM (ct (bR _ _) aR) ?_|refine gS ?_);simp only[go_sem,hs,k0])|refine gA ?_|(refine gD (fun h=>?_) (fun h=>?_)<;>try exact aA h)|fail
  have e0:hget (H++[.cells 0 [.sl b (l.map ndA)]]) H.length=.cells 0 [.sl b (l.map ndA)]:=by simp only[go_sem]
  refine iC (ι:=List (AV×AV×Nat)×Nat) (fun _=>[(1,.int .i64 dir),(2,.ref H.length 0 0),(5,.ref (H.length+2) 0 0)]) (fun s=>H++[.cells 0 [.sl b (l.map ndA)],.map s.1 s.2,.cells 0 [.map (H.length+1)]]) (fun s=>OutOk (dir::up) s.1) ?_ fun⟨oes,ocl⟩ ho=>?_
  ·refine aP (ι:=Nat×List (AV×AV×Nat)×Nat) (fun s=>[(1,.int .i64 dir),(2,.ref H.length 0 0),(5,.ref (H.length+2) 0 0),(18,.sl false (up.map inA)),(19,.int .i64 up.length),(20,.int .i64 s.1)]) (fun s=>H++[.cells 0 [.sl b (l.map ndA)],.map s.2.1 s.2.2,.cells 0 [.map (H.length+1)]])
    (fun s=>s.1≤up.length∧OutOk (dir::up.take s.1) s.2.1) (fun s=>up.length-s.1) (0,dR (.int .i64 dir) (.bool true) [] 0,_) ⟨Nat.zero_le _,aVf aVe dir 0⟩ ?_ rfl ?_
   ·simp[go_sem]
   rintro⟨i,oes,ocl⟩ ⟨hi,ho⟩
   simp only at hi ho ⊢
   by_cases hin:i<up.length
   ·have hgd:(up.map inA).getD i .top=inA up[i]:=by simp[hin]
    have k1:keysIn (.int .i64) oes=True:=eq_true ho.ki
    have ho2:=aVf ho up[i] ocl
    have htk:dir::up.take i++[up[i]]=dir::up.take (i+1):=by rw[List.take_succ_eq_append_getElem hin];rfl
    rw[htk]at ho2
    repeat' first|(refine gS ?_;simp only[go_sem,hin,hgd,inA,k1])|refine gA ?_|(refine gD (fun h=>?_) (fun h=>?_)<;>try exact aA h)|fail
    refine⟨(i+1,_,_),⟨hin,ho2⟩,by simp only;omega,congrArg _ (bD hin (by omega)),rfl⟩
   ·have hie:i=up.length:=by omega
    rw[hie,List.take_length]at ho
    repeat' first|(refine gS ?_;simp only[go_sem,hin])|refine gA ?_|(refine gD (fun h=>?_) (fun h=>?_)<;>try exact aA h)|fail
    exact⟨(oes,ocl),ho,rfl⟩
  simp only
  have hout:dir::up=aUk l dir:=by rw[hup];rfl
  rw[hout]at ho
  refine wN (ι:=Unit) (fun _=>[(1,.int .i64 dir),(2,.ref H.length 0 0),(5,.ref (H.length+2) 0 0),(8,.ref (H.length+3) 0 0)]) (fun _=>H++[.cells 0 [.sl b (l.map ndA)],.map oes ocl,.cells 0 [.map (H.length+1)],.cells 0 [.sl true []]]) (fun _=>True) ?_ fun _ _=>?_
  ·repeat' first|(refine gS ?_;simp only[go_sem])|refine gA ?_|(refine gD (fun h=>?_) (fun h=>?_)<;>try exact aA h)|fail
   exact⟨(),trivial⟩
  refine wN (ι:=Unit) (fun _=>[(1,.int .i64 dir),(2,.ref H.length 0 0),(5,.ref (H.length+2) 0 0),(8,.ref (H.length+3) 0 0),(9,.ref (H.length+4) 0 0)]) (fun _=>H++[.cells 0 [.sl b (l.map ndA)],.map oes ocl,.cells 0 [.map (H.length+1)],.cells 0 [.sl true []],.cells 0 [.nilfunc]]) (fun _=>True) ?_ fun _ _=>?_
  ·repeat' first|(refine gS ?_;simp only[go_sem])|refine gA ?_|(refine gD (fun h=>?_) (fun h=>?_)<;>try exact aA h)|fail
   exact⟨(),trivial⟩
  refine wN (ι:=Unit) (fun _=>[(1,.int .i64 dir),(2,.ref H.length 0 0),(5,.ref (H.length+2) 0 0),(8,.ref (H.length+3) 0 0),(9,.ref (H.length+4) 0 0)]) (fun _=>H++[.cells 0 [.sl b (l.map ndA)],.map oes ocl,.cells 0 [.map (H.length+1)],.cells 0 [.sl true []],.cells 0 [.func (.func 61) [] [.ref H.length 0 0,.ref (H.length+2) 0 0,.ref (H.length+3) 0 0,.ref (H.length+4) 0 0]]]) (fun _=>True) ?_ fun _ _=>?_
  ·repeat' first|(refine gS ?_;simp only[go_sem])|refine gA ?_|(refine gD (fun h=>?_) (fun h=>?_)<;>try exact aA h)|fail
   exact⟨(),trivial⟩
  refine aAr (H.length+3) 0 3 (by simp only[go_sem];rfl) rfl ?_
  simp only[go_sem]
  have hB:IB 61 b l oes ocl H.length [] (H++[.cells 0 [.sl b (l.map ndA)],.map oes ocl,.cells 0 [.map (H.length+1)],.cells 0 [.osl 3 (H.length+5) 1 0 0 0],.cells 0 [.func (.func 61) [] [.ref H.length 0 0,.ref (H.length+2) 0 0,.ref (H.length+3) 0 0,.ref (H.length+4) 0 0]],.cells 1 []]):=
   ⟨by simp only[go_sem],by simp only[go_sem],by simp only[go_sem],by first|(simp only[go_sem];done)|(simp only[go_sem];rfl),by simp only[go_sem],by first|(simp only[go_sem];done)|(simp only[go_sem];rfl)⟩
  have hbl:=aMg hs hw (aUk l dir) dir [] hd
  have hdl:=aCA hw dir
  repeat' first|(refine gS ?_;simp only[go_sem])|refine gA ?_|(refine gD (fun h=>?_) (fun h=>?_)<;>try exact aA h)|fail
  refine mX (aUC hs hw hl hn ho ocl H.length (l.length+1) dir [] [] _ hd (by omega) (Nat.zero_le _) (by rw[List.length_nil];omega) hB) aSI ?_
  rintro v H' ⟨rfl,rfl⟩
  rw[List.nil_append]
  have hB2:=hB.put (blw l (aUk l dir) dir [])
  have c3:=hB2.b3
  have c5:=hB2.b5
  simp only[go_sem]
  repeat' first|(refine gS ?_;simp only[go_sem,c3])|refine gA ?_|(refine gD (fun h=>?_) (fun h=>?_)<;>try exact aA h)|fail
  obtain⟨L,hL⟩:=(show ∃L,itH (H++_) H.length (blw l (aUk l dir) dir [])=H++L from eD (eD ⟨_,rfl⟩ (by omega) _) (by omega) _)
  rw[hL]at c5 ⊢
  exact jS (cs:=itC (blw l (aUk l dir) dir [])) (es:=(blw l (aUk l dir) dir []).map itA) (rest:=[]) (by omega) c5 (by rw[List.append_nil];rfl) (by simp) (fun e he=>by obtain⟨x,_,rfl⟩:=List.mem_map.1 he;rfl) (fun e he=>by obtain⟨x,_,rfl⟩:=List.mem_map.1 he;exact(by simp only[go_sem])) rfl
end Go.Proofs.YthhdnjiodklmmaaGreatDoor
