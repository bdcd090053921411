/- What the functions of this seat answer (37 of 40). No condition. -/
import Derived.Test.YtigedpfipifefaaGreatDoorWorkBJ
set_option linter.unusedSimpArgs false
set_option linter.unusedVariables false
set_option maxRecDepth 100000
set_option maxHeartbeats 16000000
namespace Go.Proofs.YtigedpfipifefaaGreatDoor
def itC(its:List Itm):List AV:=(its.map itA).flatMap AV.cells
theorem aNK(a:List Itm)(x:Itm):itC (a++[x])=itC a++[.str x.path,.int .i64 x.id,.str x.data]:=by
 simp[itC,itA,AV.cells]
theorem aNL(a:List Itm):(itC a).length=a.length * 3:=by
 induction a with
 |nil=>rfl
 |cons x a ih=>
  have:itC (x::a)=[.str x.path,.int .i64 x.id,.str x.data]++itC a:=by simp[itC,itA,AV.cells]
  grind
def yZ(G:AHeap)(h:Nat)(its:List Itm):AHeap:=aA (aA G (h+5) (.cells (its.length+1) (itC its))) (h+3) (.cells 0 [.osl 3 (h+5) (its.length+1) 0 its.length its.length])
theorem aLl(G:AHeap)(h:Nat)(a b:List Itm):yZ (yZ G h a) h b=yZ G h b:=by
 unfold yZ;rw[fV (aA G (h+5) _) _ _ (show h+3≠h+5 by omega),cB,cB]
theorem aNM{G:AHeap}{h:Nat}(hh:h+5<G.length)(its:List Itm)(L:AHeap):yZ (G++L) h its=yZ G h its++L:=by
 unfold yZ;rw[bQ hh,bQ (by rw[bF];omega)]
theorem aNN(G:AHeap)(h:Nat)(its:List Itm):(yZ G h its).length=G.length:=by unfold yZ;rw[bF,bF]
theorem vX{G:AHeap}{h j:Nat}{B:ABlk}(its:List Itm)(hj:hget G j=B)(h1:j≠h+3)(h2:j≠h+5):hget (yZ G h its) j=B:=by
 unfold yZ;exact aR (aR hj (by omega) _) (by omega) _
structure IB (F:FuncId) (b:Bool) (l:List Nd) (oes:List (AV×AV×Nat)) (ocl h:Nat) (its:List Itm) (G:AHeap):Prop where
 b0:hget G h=.cells 0 [.sl b (l.map ndA)]
 b1:hget G (h+1)=.map oes ocl
 b2:hget G (h+2)=.cells 0 [.map (h+1)]
 b3:hget G (h+3)=.cells 0 [.osl 3 (h+5) (its.length+1) 0 its.length its.length]
 b4:hget G (h+4)=.cells 0 [.func (.func F) [] [.ref h 0 0,.ref (h+2) 0 0,.ref (h+3) 0 0,.ref (h+4) 0 0]]
 b5:hget G (h+5)=.cells (its.length+1) (itC its)
theorem IB.lt{F:FuncId}{b:Bool}{l:List Nd}{oes:List (AV×AV×Nat)}{ocl h:Nat}{its:List Itm}{G:AHeap}(k:IB F b l oes ocl h its G):h+5<G.length:=bC k.b5 trivial
theorem IB.app{F:FuncId}{b:Bool}{l:List Nd}{oes:List (AV×AV×Nat)}{ocl h:Nat}{its:List Itm}{G:AHeap}(k:IB F b l oes ocl h its G)(L:AHeap):IB F b l oes ocl h its (G++L):=
 ⟨aK k.b0 trivial L,aK k.b1 trivial L,aK k.b2 trivial L,aK k.b3 trivial L,aK k.b4 trivial L,aK k.b5 trivial L⟩
theorem IB.put{F:FuncId}{b:Bool}{l:List Nd}{oes:List (AV×AV×Nat)}{ocl h:Nat}{its:List Itm}{G:AHeap}(k:IB F b l oes ocl h its G)(js:List Itm):IB F b l oes ocl h js (yZ G h js):=
 ⟨vX js k.b0 (by omega) (by omega),vX js k.b1 (by omega) (by omega),vX js k.b2 (by omega) (by omega),bX (by rw[bF];exact bC k.b3 trivial) _,vX js k.b4 (by omega) (by omega),
  aR (bX k.lt _) (by omega) _⟩
theorem IB.own{F:FuncId}{b:Bool}{l:List Nd}{oes:List (AV×AV×Nat)}{ocl h:Nat}{its:List Itm}{G:AHeap}(k:IB F b l oes ocl h its G):yZ G h its=G:=by
 unfold yZ;rw[eL k.b5 trivial,eL k.b3 trivial]
theorem aJU(k n:Nat)(its:List Itm):ClB n (.cells k (itC its)):=fun x hx=>by
 unfold itC at hx;rw[List.mem_flatMap]at hx;obtain⟨y,hy,hx⟩:=hx;obtain⟨t, -,rfl⟩:=zAi.1 hy;simp only[itA,AV.cells,zAC,zBl,or_false]at hx;rcases hx with rfl|rfl|rfl
 ·exact .str _
 ·exact .int _ _
 ·exact .str _
theorem aM3{G:AHeap}{h n:Nat}(its:List Itm)(hn:h+5<n):∀(j:Nat) (b:ABlk),(yZ G h its)[j]?=some b→G[j]?=some b∨ClB n b:=fun j b hj=>by
 rcases nE (n:=n) (b:=.cells 0 [.osl 3 (h+5) (its.length+1) 0 its.length its.length]) (fun x hx=>by rw[zAq]at hx;subst hx;exact .osl _ _ _ _ _ _ (by omega)) j b hj with q|q
 ·exact nE (aJU _ _ its) j b q
 ·exact .inr q
theorem aM4{b:Bool}{l:List Nd}(hc:chk l=true)(hw:Wfr l)(hl:l.length≤1073741824)(hn:SmN l){out:List Int}{oes:List (AV×AV×Nat)}(ho:OutOk out oes)(ocl u:Nat):
  ∀(k:Nat) (dir:Int) (path:Txt) (its:List Itm) (G:AHeap),dirI dir=true→l.length<k+tR l dir→path.length≤tR l dir * 1073741825→its.length+(blw l out dir path).length≤1073741824→
   IB 65 b l oes ocl u its G→
   ACalls Tryz.prog 65 [.int .i64 dir,.str path,.ref u 0 0,.ref (u+2) 0 0,.ref (u+3) 0 0,.ref (u+4) 0 0] G (fun v G'=>v=.tup []∧G'=yZ G u (its++blw l out dir path)):=by
 intro k;induction k with
 |zero=>intro dir path its G _ hk;have:=vF hw dir;omega
 |succ k ih=>
 intro dir path its G hd hk hp hq hb;refine aQ Tryz.func65 ?_;have hlt:=hb.lt;have a0:=hb.b0;repeat' first|(refine gS ?_;simp only[go_sem,a0])|refine hU ?_|fail
 refine aG (aJt b l dir hl G) (cO) ?_;rintro v H' ⟨rfl,rfl⟩;simp only[go_sem];obtain⟨es,hes⟩:∃es,es=kF 0 (dO l dir):=⟨_,rfl⟩;obtain⟨cl,hcl⟩:∃n,n=(dO l dir).length:=⟨_,rfl⟩;have hok:MpOk es cl:=by rw[hes,hcl];exact aJT _
 have hsk:StrK es:=by rw[hes];exact aM2 (oI l dir).1
 rw[←hes,←hcl];repeat' first|(refine gS ?_;simp only[go_sem])|refine hU ?_|fail
 -- what is left out goes from the map
 refine dU (ι:=AHeap) (fun _=>[(1,.str path),(2,.ref u 0 0),(3,.ref (u+2) 0 0),(4,.ref (u+3) 0 0),(5,.ref (u+4) 0 0),(8,.map G.length)]) (fun L=>G++.map (es.filter fun q=> !outQ out q) cl::L) (fun _=>True) ?_ fun L0 _=>?_
 ·refine aH (ι:=List (AV×AV×Nat)×AHeap) (fun s=>[(1,.str path),(2,.ref u 0 0),(3,.ref (u+2) 0 0),(4,.ref (u+3) 0 0),(5,.ref (u+4) 0 0),(8,.map G.length),(19,.iter (G.length+1))]) (fun s=>G++.map (lessE es (outQ out) s.1) cl::.miter G.length cl (s.1.map (·.2.2)) cl::s.2) (fun s=>Gone es s.1) (fun s=>es.length-s.1.length)
   ([],[]) ⟨fun p hp=>(by cases hp),(by simp)⟩ (by simp[go_sem]) (by rw[lessE_nil];rfl) ?_
  rintro⟨ps,L⟩ hG;simp only at hG ⊢;have hokl:MpOk (lessE es (outQ out) ps) cl:=hok.filter _;have hskl:StrK (lessE es (outQ out) ps):=hsk.filter _;repeat' first|(refine gS ?_;simp only[go_sem])|refine hU ?_|fail
  refine⟨G.length+1,G.length,cl,ps.map (·.2.2),cl,lessE es (outQ out) ps,cl,rfl,by simp only[go_sem],by simp only[go_sem],fun p hp=>⟨hokl.lt p hp,hokl.lt p hp⟩,fun he=>?_,fun p hp=>?_⟩
  ·simp only[go_sem];repeat' first|(refine gS ?_;simp only[go_sem])|refine hU ?_|fail
   rw[lessE_left]at he;rw[lessE_end (hG.perm hok he)];exact⟨.miter G.length cl (ps.map (·.2.2)) cl::L,rfl⟩
  ·have hpl:p∈lessE es (outQ out) ps:=(List.mem_filter.1 hp).1;have hp':=hp;rw[lessE_left]at hp';obtain⟨hG2,hpe⟩:=hG.step hp';have g3:=hokl.ent hpl (ps.map (·.2.2));have hpm:=hpe;rw[hes]at hpm;obtain⟨⟨s,n⟩,hm,e1,e2⟩:=nmE_mem hpm;simp only at e1 e2;simp only[go_sem];obtain⟨G2,hG2e⟩:∃G2,G++.map (lessE es (outQ out) ps) cl::.miter G.length cl (ps.map (·.2.2)++[p.2.2]) cl::L=G2:=⟨_,rfl⟩;have c0:hget G2 G.length=.map (lessE es (outQ out) ps) cl:=by rw[←hG2e];simp only[go_sem]
   have c1:hget G2 (G.length+1)=.miter G.length cl (ps.map (·.2.2)++[p.2.2]) cl:=by rw[←hG2e];simp only[go_sem]
   have c2:hget G2 (u+2)=.cells 0 [.map (u+1)]:=by rw[←hG2e];exact(hb.app _).b2
   have c3:hget G2 (u+1)=.map oes ocl:=by rw[←hG2e];exact(hb.app _).b1
   have d0:=pQ c0 trivial;have d2:=cY c2 trivial;have d3:=cY c3 trivial;have d1:=cY c0 trivial;have k1:keysIn .string (lessE es (outQ out) ps)=True:=zBf hskl.ki;have k2:keysIn (.int .i64) oes=True:=zBf ho.ki;have hdel:=del_filter hskl hokl hpl e1;rw[hG2e];rw[e1]at g3;rw[e2]at g3;rw[e1,e2];have hat:=ho.at_ n.id;have hoq:outQ out p=out.contains n.id:=by unfold outQ;rw[e2];rfl
   have hms:es.length-(ps++[p]).length<es.length-ps.length:=by
    have:=hG2.len;simp only[zAa,zAt,List.length_nil]at this ⊢;omega
   by_cases hmem:n.id∈out
   ·rw[zAp hmem]at hat;obtain⟨⟨j,w⟩,hj,hw2⟩:=zAy.1 hat;simp only at hw2;subst hw2;have hyes:outQ out p=true:=by rw[hoq];simpa using hmem
    have hle:=lessE_yes (ps:=ps) hok hpe hyes;rw[←hdel]at hle;repeat' first|(refine gS ?_;simp only[go_sem,g3,c0,c1,c2,c3,d0,d1,d2,d3,k1,k2,hj,ndA])|refine hU ?_|fail
    refine⟨(ps++[p],L++[.cells 0 (ndA n).cells]),hG2,hms,?_⟩;rw[hle,←hG2e];simp[aA,ndA,AV.cells]
   ·rw[zAk hmem]at hat;have hj:=Option.map_eq_none_iff.1 hat;have hnot:outQ out p=false:=by rw[hoq];simpa using hmem
    have hle:=lessE_no (ps:=ps) hok hpe hnot;repeat' first|(refine gS ?_;simp only[go_sem,g3,c0,c1,c2,c3,d0,d1,d2,d3,k1,k2,hj,ndA])|refine hU ?_|fail
    refine⟨(ps++[p],L++[.cells 0 (ndA n).cells]),hG2,hms,?_⟩;rw[hle,←hG2e];simp[aA,ndA,AV.cells]
 -- the names in order
 have hokf:MpOk (es.filter fun q=> !outQ out q) cl:=hok.filter _
 have hkeys:(es.filter fun q=> !outQ out q).map (·.1)=(((dO l dir).filter fun p=> !out.contains p.2.id).map (·.1)).map AV.str:=by rw[hes];exact nmE_out out 0 _
 have hsm:SmL (((dO l dir).filter fun p=> !out.contains p.2.id).map (·.1)):=fun s hs=>by
  obtain⟨p,hp,rfl⟩:=zAi.1 hs;exact smN_keys hn dir _ (zAi.2 ⟨p,(List.mem_filter.1 hp).1,rfl⟩)
 have hfl:(es.filter fun q=> !outQ out q).length≤1073741824:=by
  have h1:=List.length_filter_le (fun q=> !outQ out q) es
  have h2:es.length=(dO l dir).length:=by rw[hes,aNy]
  have h3:=seenN_len l dir;omega
 repeat' first|(refine gS ?_;simp only[go_sem])|refine hU ?_|fail
 refine cS (rising_c hokf G.length hkeys hsm hfl _ (by simp only[go_sem])) (cO) ?_
 simp only[go_sem];show _;obtain⟨ns,hns⟩:∃ns,ns=vG l out dir:=⟨_,rfl⟩;have hns':pC (((dO l dir).filter fun p=> !out.contains p.2.id).map (·.1))=ns:=by rw[hns];rfl
 rw[hns'];repeat' first|(refine gS ?_;simp only[go_sem])|refine hU ?_|fail
 have hnl:ns.length≤1073741824:=by
  have h1:ns.length=(((dO l dir).filter fun p=> !out.contains p.2.id).map (·.1)).length:=by rw[hns];exact(mK _).length_eq
  have h2:=List.length_filter_le (fun p:Txt×Nd=> !out.contains p.2.id) (dO l dir)
  have h3:=seenN_len l dir;rw[zAs]at h1;omega
 obtain⟨es',hes'⟩:∃es',es'=es.filter fun q=> !outQ out q:=⟨_,rfl⟩
 have hsk':StrK es':=by rw[hes'];exact hsk.filter _
 have hstep:=aDR hc hw out hd path;rw[←hns]at hstep;rw[←hes'];refine aH (ι:=Nat×AHeap) (fun s=>[(1,.str path),(2,.ref u 0 0),(3,.ref (u+2) 0 0),(4,.ref (u+3) 0 0),(5,.ref (u+4) 0 0),(8,.map G.length),(32,.sl false (ns.map AV.str)),(33,.int .i64 ns.length),(34,.int .i64 s.1)])
  (fun s=>yZ G u (its++(ns.take s.1).flatMap (aDQ l out dir path))++.map es' cl::s.2) (fun s=>s.1≤ns.length) (fun s=>ns.length-s.1) (0,L0) (zAv _) ?_ ?_ ?_
 ·simp[go_sem]
 ·rw[zAS,zBQ,zAj,hb.own]
 rintro⟨i,L⟩ hi;simp only at hi ⊢;obtain⟨its2,hits2⟩:∃x,x=its++(ns.take i).flatMap (aDQ l out dir path):=⟨_,rfl⟩;rw[←hits2];obtain⟨G2,hG2e⟩:∃G2,yZ G u its2++.map es' cl::L=G2:=⟨_,rfl⟩;have hB:IB 65 b l oes ocl u its2 G2:=by rw[←hG2e];exact(hb.put its2).app _
 have c0:hget G2 G.length=.map es' cl:=by rw[←hG2e];exact rI (aNN G u its2)
 rw[hG2e];by_cases hin:i<ns.length
 ·have hmem:ns[i]∈vG l out dir:=by rw[←hns];exact zAK hin
  obtain⟨n,hlk,hsm2,hno⟩:=aJv hmem;have hnil:ns[i].length≤1073741824:=smN_keys hn dir _ (zAi.2 ⟨(ns[i],n),hsm2,rfl⟩);obtain⟨q,hq'⟩:=mem_nmE (b:=0) hsm2;have hqe:(AV.str ns[i],ndA n,q)∈es':=by rw[hes',hes];exact List.mem_filter.2 ⟨hq',by unfold outQ;simpa[ndA]using hno⟩
  obtain⟨j,hj, -⟩:=hsk'.at_ hqe rfl;simp only at hj;have k1:keysIn .string es'=True:=zBf hsk'.ki;obtain⟨hpar,hnin, -⟩:=xN hc hd hsm2;have hdp:=pX hw hpar;have hpl:(path.length+1)+ns[i].length≤tR l n.id * 1073741825:=by omega
  have htk:(ns.take (i+1)).flatMap (aDQ l out dir path)=(ns.take i).flatMap (aDQ l out dir path)++aDQ l out dir path ns[i]:=by
   rw[zAl hin,zBi,List.flatMap_singleton]
  have hpc:aDQ l out dir path ns[i]=⟨path++(47::ns[i]),n.id,n.data⟩::(if dirI n.id=true then blw l out n.id (path++(47::ns[i]))else[]):=by unfold aDQ;rw[hlk]
  have hsz:its2.length+(aDQ l out dir path ns[i]).length≤1073741824:=by
   have h1:((ns.take (i+1)).flatMap (aDQ l out dir path)).length≤(blw l out dir path).length:=by
    rw[hstep];conv=>rhs;rw[←List.take_append_drop (i+1) ns,zBi,zAa]
    omega
   rw[htk,zAa]at h1;rw[hits2,zAa];omega
  have hdl:=vF hw n.id;have r3:=cY hB.b3 trivial;have r4:=cY hB.b4 trivial;have r5:=cY hB.b5 trivial;have w5:=pQ hB.b5 trivial;have l5:=hB.lt;have r3':∀c L,hget (aA G2 (u+5) c++L) (u+3)=_:=fun c L=>aK (aR hB.b3 (by omega) c) trivial L
  have w3':∀c c' L,aA (aA G2 (u+5) c++L) (u+3) c'=aA (aA G2 (u+5) c) (u+3) c'++L:=fun c c' L=>bQ (by rw[bF];omega) L c'
  have r4':∀c c' L,hget (aA (aA G2 (u+5) c) (u+3) c'++L) (u+4)=_:=fun c c' L=>aK (aR (aR hB.b4 (by omega) c) (by omega) c') trivial L
  have rn':∀c c' L,hget (aA (aA G2 (u+5) c) (u+3) c'++L) G2.length=L.getD 0 .gone:=fun c c' L=>rI (by rw[bF,bF])
  have hcs:(itC its2).length=its2.length * 3:=aNL _;have hq2:((its2.length+1) * 40≤140737488355328)=True:=zBf (by rw[hpc]at hsz;simp only[zAt]at hsz;omega)
  have hsp:bI [AV.osl 3 (u+5) (its2.length+1) 0 its2.length its2.length] 0 [.osl 3 (u+5) (its2.length+2) 0 (its2.length+1) (its2.length+1)]=[.osl 3 (u+5) (its2.length+2) 0 (its2.length+1) (its2.length+1)]:=rfl;have hgd:(ns.map AV.str).getD i .top=.str ns[i]:=by simp[hin]
  have hq1:(∀e,e=AV.agg [.str (path++47::ns[i]),.int .i64 n.id,.str n.data]→e.cells.length=3)=True:=zBf (fun e he=>by rw[he];rfl)
  obtain⟨x,hx⟩:∃x:Itm,x=⟨path++(47::ns[i]),n.id,n.data⟩:=⟨_,rfl⟩;have hput:∀Y,aA (aA G2 (u+5) (.cells (its2.length+2) (itC its2++[.str (path++47::ns[i]),.int .i64 n.id,.str n.data]))) (u+3) (.cells 0 [.osl 3 (u+5) (its2.length+2) 0 (its2.length+1) (its2.length+1)])++Y=yZ (G2++Y) u (its2++[x]):=fun Y=>by
   rw[aNM hB.lt,hx];unfold yZ;rw[aNK,zAa];rfl
  have hend:∀js Y,yZ (G2++Y) u js=yZ G u js++.map es' cl::(L++Y):=fun js Y=>by
   rw[aNM hB.lt,←hG2e,aNM (by rw[aNN];exact hlt),aLl]
   simp
  rw[←hx]at hpc;have hms:ns.length-(i+1)<ns.length-i:=by omega
  cases hdn:dirI n.id with
  |false=>
   repeat' first|((first|refine gQ (aPG _) ?_|refine gS ?_);simp only[go_sem,c0,hgd,hj,k1,ndA,hin,hcs,hq1,hq2,hsp,r3,r4,r5,w5,r3',w3',r4',rn',hdn])|refine hU ?_|fail
   refine⟨(i+1,L++[.cells 0 (ndA n).cells]),hin,hms,zA5 _ (cA hin (by omega)),?_⟩
   rw[hput,hend,htk,hpc,hdn,zAk (by simp),hits2,zAe]
   rfl
  |true=>
   repeat' first|((first|refine gQ (aPG _) ?_|refine gS ?_);simp only[go_sem,c0,hgd,hj,k1,ndA,hin,hcs,hq1,hq2,hsp,r3,r4,r5,w5,r3',w3',r4',rn',hdn])|refine hU ?_|fail
   rw[hput];have hB3:=(hB.app [.cells 0 [.int .i64 n.id,.int .i64 n.parent,.str n.name,.int .i64 n.moved.c,.int .i64 n.moved.r,.str n.data,.int .i64 n.wrote.c,.int .i64 n.wrote.r]]).put (its2++[x]);rw[hpc,hdn,zAp rfl,zAt]at hsz;refine aHn (ih n.id (path++47::ns[i]) (its2++[x]) _ hdn (by omega) (by rw[zAa,zAt];omega) (by rw[zAa,zBw];omega) hB3) (cO) ?_
   rintro v H' ⟨rfl,rfl⟩;rw[aLl];simp only[go_sem];repeat' first|(refine gS ?_;simp only[go_sem])|refine hU ?_|fail
   refine⟨(i+1,L++[.cells 0 (ndA n).cells]),hin,hms,zA5 _ (cA hin (by omega)),?_⟩
   rw[hend,htk,hpc,hdn,zAp rfl,hits2,zAe];rfl
 ·have hie:i=ns.length:=by omega
  repeat' first|(refine gS ?_;simp only[go_sem,hin])|refine hU ?_|fail
  refine⟨yZ G u its2,.map es' cl::L,.tup [],hG2e.symm,by rw[aNN];exact zAb _,by rw[aNN];exact aM3 its2 hlt,.cl _ (.tup _ fun _ _ hx=>by simp at hx),rfl,?_⟩
  rw[hits2,hie,zAG,hstep]
theorem aNO(b:Bool)(l:List Nd)(dir:Int)(hw:Wfr l)(hd:dirI dir=true)(hl:l.length≤1073741824)(hn:SmN l)(H:AHeap):bJ Tryz.prog 36 [.sl b (l.map ndA),.int .i64 dir] H (.sl false ((rN l dir).map itA)):=by
 refine fO Tryz.func36 ?_;unfold rN;cases hs:chk l with
 |false=>
  rw[zAk (by simp),zBr]
  repeat' first|((first|refine gQ (aHA _ _) ?_|refine gS ?_);simp only[go_sem,hs])|refine hU ?_|fail
  exact dY (.sl _ _)
 |true=>
  rw[zAp rfl];have hab:=aMx b l dir hl;obtain⟨up,hup⟩:∃up,up=uY l dir:=⟨_,rfl⟩;rw[←hup]at hab;have k0:keysIn (.int .i64) []=True:=zBf (fun p hp=>by cases hp)
  have hul:up.length≤1073741824:=by
   rw[hup,uY,zAp hs];exact zA7 (tQ hw _ _) hl
  repeat' first|((first|refine gQ (aHA _ _) ?_|refine gS ?_);simp only[go_sem,hs,k0])|refine hU ?_|fail
  have e0:hget (H++[.cells 0 [.sl b (l.map ndA)]]) H.length=.cells 0 [.sl b (l.map ndA)]:=by simp only[go_sem]
  refine dU (ι:=List (AV×AV×Nat)×Nat) (fun _=>[(1,.int .i64 dir),(2,.ref H.length 0 0),(5,.ref (H.length+2) 0 0)]) (fun s=>H++[.cells 0 [.sl b (l.map ndA)],.map s.1 s.2,.cells 0 [.map (H.length+1)]]) (fun s=>OutOk (dir::up) s.1) ?_ fun⟨oes,ocl⟩ ho=>?_
  ·refine aH (ι:=Nat×List (AV×AV×Nat)×Nat) (fun s=>[(1,.int .i64 dir),(2,.ref H.length 0 0),(5,.ref (H.length+2) 0 0),(18,.sl false (up.map sG)),(19,.int .i64 up.length),(20,.int .i64 s.1)]) (fun s=>H++[.cells 0 [.sl b (l.map ndA)],.map s.2.1 s.2.2,.cells 0 [.map (H.length+1)]])
    (fun s=>s.1≤up.length∧OutOk (dir::up.take s.1) s.2.1) (fun s=>up.length-s.1) (0,nS (.int .i64 dir) (.bool true) [] 0,_) ⟨zAv _,out_put out_nil dir 0⟩ ?_ rfl ?_
   ·simp[go_sem]
   rintro⟨i,oes,ocl⟩ ⟨hi,ho⟩;simp only at hi ho ⊢;by_cases hin:i<up.length
   ·have hgd:(up.map sG).getD i .top=sG up[i]:=by simp[hin]
    have k1:keysIn (.int .i64) oes=True:=zBf ho.ki;have ho2:=out_put ho up[i] ocl;have htk:dir::up.take i++[up[i]]=dir::up.take (i+1):=by rw[zAl hin];rfl
    rw[htk]at ho2;repeat' first|(refine gS ?_;simp only[go_sem,hin,hgd,sG,k1])|refine hU ?_|fail
    refine⟨(i+1,_,_),⟨hin,ho2⟩,by simp only;omega,zA5 _ (cA hin (by omega)),rfl⟩
   ·have hie:i=up.length:=by omega
    rw[hie,zAG]at ho;repeat' first|(refine gS ?_;simp only[go_sem,hin])|refine hU ?_|fail
    exact⟨(oes,ocl),ho,rfl⟩
  simp only;have hout:dir::up=aOw l dir:=by rw[hup];rfl
  rw[hout]at ho;refine aJi (ι:=Unit) (fun _=>[(1,.int .i64 dir),(2,.ref H.length 0 0),(5,.ref (H.length+2) 0 0),(8,.ref (H.length+3) 0 0)]) (fun _=>H++[.cells 0 [.sl b (l.map ndA)],.map oes ocl,.cells 0 [.map (H.length+1)],.cells 0 [.sl true []]]) (fun _=>True) ?_ fun _ _=>?_
  ·repeat' first|(refine gS ?_;simp only[go_sem])|refine hU ?_|fail
   exact⟨(),trivial⟩
  refine aJi (ι:=Unit) (fun _=>[(1,.int .i64 dir),(2,.ref H.length 0 0),(5,.ref (H.length+2) 0 0),(8,.ref (H.length+3) 0 0),(9,.ref (H.length+4) 0 0)]) (fun _=>H++[.cells 0 [.sl b (l.map ndA)],.map oes ocl,.cells 0 [.map (H.length+1)],.cells 0 [.sl true []],.cells 0 [.nilfunc]]) (fun _=>True) ?_ fun _ _=>?_
  ·repeat' first|(refine gS ?_;simp only[go_sem])|refine hU ?_|fail
   exact⟨(),trivial⟩
  refine aJi (ι:=Unit) (fun _=>[(1,.int .i64 dir),(2,.ref H.length 0 0),(5,.ref (H.length+2) 0 0),(8,.ref (H.length+3) 0 0),(9,.ref (H.length+4) 0 0)]) (fun _=>H++[.cells 0 [.sl b (l.map ndA)],.map oes ocl,.cells 0 [.map (H.length+1)],.cells 0 [.sl true []],.cells 0 [.func (.func 65) [] [.ref H.length 0 0,.ref (H.length+2) 0 0,.ref (H.length+3) 0 0,.ref (H.length+4) 0 0]]]) (fun _=>True) ?_ fun _ _=>?_
  ·repeat' first|(refine gS ?_;simp only[go_sem])|refine hU ?_|fail
   exact⟨(),trivial⟩
  refine jG (H.length+3) 0 3 (by simp only[go_sem];rfl) rfl ?_
  simp only[go_sem];have hB:IB 65 b l oes ocl H.length [] (H++[.cells 0 [.sl b (l.map ndA)],.map oes ocl,.cells 0 [.map (H.length+1)],.cells 0 [.osl 3 (H.length+5) 1 0 0 0],.cells 0 [.func (.func 65) [] [.ref H.length 0 0,.ref (H.length+2) 0 0,.ref (H.length+3) 0 0,.ref (H.length+4) 0 0]],.cells 1 []]):=
   ⟨by simp only[go_sem],by simp only[go_sem],by simp only[go_sem],by first|(simp only[go_sem];done)|(simp only[go_sem];rfl),by simp only[go_sem],by first|(simp only[go_sem];done)|(simp only[go_sem];rfl)⟩
  have hbl:=blw_len hs hw (aOw l dir) dir [] hd;have hdl:=vF hw dir;repeat' first|(refine gS ?_;simp only[go_sem])|refine hU ?_|fail
  refine aHn (aM4 hs hw hl hn ho ocl H.length (l.length+1) dir [] [] _ hd (by omega) (zAv _) (by rw[List.length_nil];omega) hB) (cO) ?_
  rintro v H' ⟨rfl,rfl⟩;rw[zAJ];have hB2:=hB.put (blw l (aOw l dir) dir []);have c3:=hB2.b3;have c5:=hB2.b5;simp only[go_sem];repeat' first|(refine gS ?_;simp only[go_sem,c3])|refine hU ?_|fail
  obtain⟨L,hL⟩:=(show ∃L,yZ (H++_) H.length (blw l (aOw l dir) dir [])=H++L from lF (lF ⟨_,rfl⟩ (by omega) _) (by omega) _)
  rw[hL]at c5 ⊢;exact jT (cs:=itC (blw l (aOw l dir) dir [])) (es:=(blw l (aOw l dir) dir []).map itA) (rest:=[]) (by omega) c5 (by rw[zAj];rfl) (by simp) (fun e he=>by obtain⟨x,_,rfl⟩:=zAi.1 he;rfl) (fun e he=>by obtain⟨x,_,rfl⟩:=zAi.1 he;exact(by simp only[go_sem])) rfl
end Go.Proofs.YtigedpfipifefaaGreatDoor
