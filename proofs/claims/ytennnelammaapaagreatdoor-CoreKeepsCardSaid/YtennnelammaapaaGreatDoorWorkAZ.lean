/- What the functions of this seat answer (26 of 38). No condition. -/
import Derived.Test.YtennnelammaapaaGreatDoorWorkAY
set_option linter.unusedSimpArgs false
set_option linter.unusedVariables false
set_option maxRecDepth 100000
set_option maxHeartbeats 16000000
namespace Go.Proofs.YtennnelammaapaaGreatDoor
def itC(its:List Itm):List AV:=(its.map itA).flatMap AV.cells
theorem aWX(a:List Itm)(x:Itm):itC (a++[x])=itC a++[.str x.path,.int .i64 x.id,.str x.data]:=by
 simp[itC,itA,AV.cells]
theorem aWY(a:List Itm):(itC a).length=a.length * 3:=by
 induction a with
 |nil=>rfl
 |cons x a ih=>
  have:itC (x::a)=[.str x.path,.int .i64 x.id,.str x.data]++itC a:=by simp[itC,itA,AV.cells]
  grind
def itH(G:AHeap)(h:Nat)(its:List Itm):AHeap:=aB (aB G (h+5) (.cells (its.length+1) (itC its))) (h+3) (.cells 0 [.osl 3 (h+5) (its.length+1) 0 its.length its.length])
theorem aUA(G:AHeap)(h:Nat)(a b:List Itm):itH (itH G h a) h b=itH G h b:=by
 unfold itH;rw[fC (aB G (h+5) _) _ _ (show h+3≠h+5 by omega),bE,bE]
theorem aWZ{G:AHeap}{h:Nat}(hh:h+5<G.length)(its:List Itm)(L:AHeap):itH (G++L) h its=itH G h its++L:=by
 unfold itH;rw[bD hh,bD (by rw[aC];omega)]
theorem aW0(G:AHeap)(h:Nat)(its:List Itm):(itH G h its).length=G.length:=by unfold itH;rw[aC,aC]
theorem aDj{G:AHeap}{h j:Nat}{B:ABlk}(its:List Itm)(hj:hget G j=B)(h1:j≠h+3)(h2:j≠h+5):hget (itH G h its) j=B:=by
 unfold itH;exact aH (aH hj (by omega) _) (by omega) _
structure IB (F:FuncId) (b:Bool) (l:List Nd) (oes:List (AV×AV×Nat)) (ocl h:Nat) (its:List Itm) (G:AHeap):Prop where
 b0:hget G h=.cells 0 [.sl b (l.map ndA)]
 b1:hget G (h+1)=.map oes ocl
 b2:hget G (h+2)=.cells 0 [.map (h+1)]
 b3:hget G (h+3)=.cells 0 [.osl 3 (h+5) (its.length+1) 0 its.length its.length]
 b4:hget G (h+4)=.cells 0 [.func (.func F) [] [.ref h 0 0,.ref (h+2) 0 0,.ref (h+3) 0 0,.ref (h+4) 0 0]]
 b5:hget G (h+5)=.cells (its.length+1) (itC its)
theorem IB.lt{F:FuncId}{b:Bool}{l:List Nd}{oes:List (AV×AV×Nat)}{ocl h:Nat}{its:List Itm}{G:AHeap}(k:IB F b l oes ocl h its G):h+5<G.length:=aV k.b5 trivial
theorem IB.app{F:FuncId}{b:Bool}{l:List Nd}{oes:List (AV×AV×Nat)}{ocl h:Nat}{its:List Itm}{G:AHeap}(k:IB F b l oes ocl h its G)(L:AHeap):IB F b l oes ocl h its (G++L):=
 ⟨aD k.b0 trivial L,aD k.b1 trivial L,aD k.b2 trivial L,aD k.b3 trivial L,aD k.b4 trivial L,aD k.b5 trivial L⟩
theorem IB.put{F:FuncId}{b:Bool}{l:List Nd}{oes:List (AV×AV×Nat)}{ocl h:Nat}{its:List Itm}{G:AHeap}(k:IB F b l oes ocl h its G)(js:List Itm):IB F b l oes ocl h js (itH G h js):=
 ⟨aDj js k.b0 (by omega) (by omega),aDj js k.b1 (by omega) (by omega),aDj js k.b2 (by omega) (by omega),aX (by rw[aC];exact aV k.b3 trivial) _,aDj js k.b4 (by omega) (by omega),
  aH (aX k.lt _) (by omega) _⟩
theorem IB.own{F:FuncId}{b:Bool}{l:List Nd}{oes:List (AV×AV×Nat)}{ocl h:Nat}{its:List Itm}{G:AHeap}(k:IB F b l oes ocl h its G):itH G h its=G:=by
 unfold itH;rw[cI k.b5 trivial,cI k.b3 trivial]
theorem aSL(k n:Nat)(its:List Itm):ClB n (.cells k (itC its)):=fun x hx=>by
 unfold itC at hx;rw[zBC]at hx;obtain⟨y,hy,hx⟩:=hx;obtain⟨t, -,rfl⟩:=zAm.1 hy;simp only[itA,AV.cells,zAs,zAH,zBv]at hx;rcases hx with rfl|rfl|rfl
 ·exact .str _
 ·exact .int _ _
 ·exact .str _
theorem aV1{G:AHeap}{h n:Nat}(its:List Itm)(hn:h+5<n):∀(j:Nat) (b:ABlk),(itH G h its)[j]?=some b→G[j]?=some b∨ClB n b:=fun j b hj=>by
 rcases pY (n:=n) (b:=.cells 0 [.osl 3 (h+5) (its.length+1) 0 its.length its.length]) (fun x hx=>by rw[zAq]at hx;subst hx;exact .osl _ _ _ _ _ _ (by omega)) j b hj with q|q
 ·exact pY (aSL _ _ its) j b q
 ·exact .inr q
theorem aV2{b:Bool}{l:List Nd}(hc:chk l=true)(hw:Wfr l)(hl:l.length≤1073741824)(hn:SmN l){out:List Int}{oes:List (AV×AV×Nat)}(ho:OutOk out oes)(ocl u:Nat):
  ∀(k:Nat) (dir:Int) (path:Txt) (its:List Itm) (G:AHeap),dirI dir=true→l.length<k+dep l dir→path.length≤dep l dir * 1073741825→its.length+(blw l out dir path).length≤1073741824→
   IB 194 b l oes ocl u its G→
   ACalls Tryz.prog 194 [.int .i64 dir,.str path,.ref u 0 0,.ref (u+2) 0 0,.ref (u+3) 0 0,.ref (u+4) 0 0] G (fun v G'=>v=.tup []∧G'=itH G u (its++blw l out dir path)):=by
 intro k;induction k with
 |zero=>intro dir path its G _ hk;have:=aC2 hw dir;omega
 |succ k ih=>
 intro dir path its G hd hk hp hq hb;refine aQ Tryz.func194 ?_;have hlt:=hb.lt;have a0:=hb.b0;repeat' first|(refine gS ?_;simp only[go_sem,a0])|refine gA ?_|(refine gD ?_ ?_<;>intro h<;>try exact aA h)|fail
 refine aR (aKB b l dir hl G) (cO) ?_;rintro v H' ⟨rfl,rfl⟩;simp only[go_sem];obtain⟨es,hes⟩:∃es,es=pV 0 (dD l dir):=⟨_,rfl⟩;obtain⟨cl,hcl⟩:∃n,n=(dD l dir).length:=⟨_,rfl⟩;have hok:MpOk es cl:=by rw[hes,hcl];exact aSK _
 have hsk:StrK es:=by rw[hes];exact aVZ (xU l dir).1
 rw[←hes,←hcl];repeat' first|(refine gS ?_;simp only[go_sem])|refine gA ?_|(refine gD ?_ ?_<;>intro h<;>try exact aA h)|fail
 -- what is left out goes from the map
 refine gB (ι:=AHeap) (fun _=>[(1,.str path),(2,.ref u 0 0),(3,.ref (u+2) 0 0),(4,.ref (u+3) 0 0),(5,.ref (u+4) 0 0),(8,.map G.length)]) (fun L=>G++.map (es.filter fun q=> !outQ out q) cl::L) (fun _=>True) ?_ fun L0 _=>?_
 ·refine aI (ι:=List (AV×AV×Nat)×AHeap) (fun s=>[(1,.str path),(2,.ref u 0 0),(3,.ref (u+2) 0 0),(4,.ref (u+3) 0 0),(5,.ref (u+4) 0 0),(8,.map G.length),(19,.iter (G.length+1))]) (fun s=>G++.map (lessE es (outQ out) s.1) cl::.miter G.length cl (s.1.map (·.2.2)) cl::s.2) (fun s=>Gone es s.1) (fun s=>es.length-s.1.length)
   ([],[]) ⟨fun p hp=>(by cases hp),(by simp)⟩ (by simp[go_sem]) (by rw[lessE_nil];rfl) ?_
  rintro⟨ps,L⟩ hG;simp only at hG ⊢;have hokl:MpOk (lessE es (outQ out) ps) cl:=hok.filter _;have hskl:StrK (lessE es (outQ out) ps):=hsk.filter _;repeat' first|(refine gS ?_;simp only[go_sem])|refine gA ?_|(refine gD ?_ ?_<;>intro h<;>try exact aA h)|fail
  refine⟨G.length+1,G.length,cl,ps.map (·.2.2),cl,lessE es (outQ out) ps,cl,rfl,by simp only[go_sem],by simp only[go_sem],fun p hp=>⟨hokl.lt p hp,hokl.lt p hp⟩,fun he=>?_,fun p hp=>?_⟩
  ·simp only[go_sem];repeat' first|(refine gS ?_;simp only[go_sem])|refine gA ?_|(refine gD ?_ ?_<;>intro h<;>try exact aA h)|fail
   rw[lessE_left]at he;rw[lessE_end (hG.perm hok he)];exact⟨.miter G.length cl (ps.map (·.2.2)) cl::L,rfl⟩
  ·have hpl:p∈lessE es (outQ out) ps:=(zBb.1 hp).1;have hp':=hp;rw[lessE_left]at hp';obtain⟨hG2,hpe⟩:=hG.step hp';have g3:=hokl.ent hpl (ps.map (·.2.2));have hpm:=hpe;rw[hes]at hpm;obtain⟨⟨s,n⟩,hm,e1,e2⟩:=nmE_mem hpm;simp only at e1 e2;simp only[go_sem];obtain⟨G2,hG2e⟩:∃G2,G++.map (lessE es (outQ out) ps) cl::.miter G.length cl (ps.map (·.2.2)++[p.2.2]) cl::L=G2:=⟨_,rfl⟩;have c0:hget G2 G.length=.map (lessE es (outQ out) ps) cl:=by rw[←hG2e];simp only[go_sem]
   have c1:hget G2 (G.length+1)=.miter G.length cl (ps.map (·.2.2)++[p.2.2]) cl:=by rw[←hG2e];simp only[go_sem]
   have c2:hget G2 (u+2)=.cells 0 [.map (u+1)]:=by rw[←hG2e];exact(hb.app _).b2
   have c3:hget G2 (u+1)=.map oes ocl:=by rw[←hG2e];exact(hb.app _).b1
   have d0:=cC c0 trivial;have d2:=aG c2 trivial;have d3:=aG c3 trivial;have d1:=aG c0 trivial;have k1:keysIn .string (lessE es (outQ out) ps)=True:=zAC hskl.ki;have k2:keysIn (.int .i64) oes=True:=zAC ho.ki;have hdel:=del_filter hskl hokl hpl e1;rw[hG2e];rw[e1]at g3;rw[e2]at g3;rw[e1,e2];have hat:=ho.at_ n.id;have hoq:outQ out p=out.contains n.id:=by unfold outQ;rw[e2];rfl
   have hms:es.length-(ps++[p]).length<es.length-ps.length:=by
    have:=hG2.len;simp only[zAa,zAc,zAv]at this ⊢;omega
   by_cases hmem:n.id∈out
   ·rw[zAl hmem]at hat;obtain⟨⟨j,w⟩,hj,hw2⟩:=zAM.1 hat;simp only at hw2;subst hw2;have hyes:outQ out p=true:=by rw[hoq];simpa using hmem
    have hle:=lessE_yes (ps:=ps) hok hpe hyes;rw[←hdel]at hle;repeat' first|(refine gS ?_;simp only[go_sem,g3,c0,c1,c2,c3,d0,d1,d2,d3,k1,k2,hj,ndA])|refine gA ?_|(refine gD ?_ ?_<;>intro h<;>try exact aA h)|fail
    refine⟨(ps++[p],L++[.cells 0 (ndA n).cells]),hG2,hms,?_⟩;rw[hle,←hG2e];simp[aB,ndA,AV.cells]
   ·rw[zAe hmem]at hat;have hj:=zCi.1 hat;have hnot:outQ out p=false:=by rw[hoq];simpa using hmem
    have hle:=lessE_no (ps:=ps) hok hpe hnot;repeat' first|(refine gS ?_;simp only[go_sem,g3,c0,c1,c2,c3,d0,d1,d2,d3,k1,k2,hj,ndA])|refine gA ?_|(refine gD ?_ ?_<;>intro h<;>try exact aA h)|fail
    refine⟨(ps++[p],L++[.cells 0 (ndA n).cells]),hG2,hms,?_⟩;rw[hle,←hG2e];simp[aB,ndA,AV.cells]
 -- the names in order
 have hokf:MpOk (es.filter fun q=> !outQ out q) cl:=hok.filter _
 have hkeys:(es.filter fun q=> !outQ out q).map (·.1)=(((dD l dir).filter fun p=> !out.contains p.2.id).map (·.1)).map AV.str:=by rw[hes];exact nmE_out out 0 _
 have hsm:SmL (((dD l dir).filter fun p=> !out.contains p.2.id).map (·.1)):=fun s hs=>by
  obtain⟨p,hp,rfl⟩:=zAm.1 hs;exact smN_keys hn dir _ (zAm.2 ⟨p,(zBb.1 hp).1,rfl⟩)
 have hfl:(es.filter fun q=> !outQ out q).length≤1073741824:=by
  have h1:=zA2 (fun q=> !outQ out q) es
  have h2:es.length=(dD l dir).length:=by rw[hes,aWK]
  have h3:=aUx l dir;omega
 repeat' first|(refine gS ?_;simp only[go_sem])|refine gA ?_|(refine gD ?_ ?_<;>intro h<;>try exact aA h)|fail
 refine aZ (rising_c hokf G.length hkeys hsm hfl _ (by simp only[go_sem])) (cO) ?_
 simp only[go_sem];show _;obtain⟨ns,hns⟩:∃ns,ns=aC3 l out dir:=⟨_,rfl⟩;have hns':zG (((dD l dir).filter fun p=> !out.contains p.2.id).map (·.1))=ns:=by rw[hns];rfl
 rw[hns'];repeat' first|(refine gS ?_;simp only[go_sem])|refine gA ?_|(refine gD ?_ ?_<;>intro h<;>try exact aA h)|fail
 have hnl:ns.length≤1073741824:=by
  have h1:ns.length=(((dD l dir).filter fun p=> !out.contains p.2.id).map (·.1)).length:=by rw[hns];exact(qC _).length_eq
  have h2:=zA2 (fun p:Txt×Nd=> !out.contains p.2.id) (dD l dir)
  have h3:=aUx l dir;rw[zAn]at h1;omega
 obtain⟨es',hes'⟩:∃es',es'=es.filter fun q=> !outQ out q:=⟨_,rfl⟩
 have hsk':StrK es':=by rw[hes'];exact hsk.filter _
 have hstep:=aKT hc hw out hd path;rw[←hns]at hstep;rw[←hes'];refine aI (ι:=Nat×AHeap) (fun s=>[(1,.str path),(2,.ref u 0 0),(3,.ref (u+2) 0 0),(4,.ref (u+3) 0 0),(5,.ref (u+4) 0 0),(8,.map G.length),(32,.sl false (ns.map AV.str)),(33,.int .i64 ns.length),(34,.int .i64 s.1)])
  (fun s=>itH G u (its++(ns.take s.1).flatMap (aKS l out dir path))++.map es' cl::s.2) (fun s=>s.1≤ns.length) (fun s=>ns.length-s.1) (0,L0) (zAo _) ?_ ?_ ?_
 ·simp[go_sem]
 ·rw[List.take_zero,zCu,zAd,hb.own]
 rintro⟨i,L⟩ hi;simp only at hi ⊢;obtain⟨its2,hits2⟩:∃x,x=its++(ns.take i).flatMap (aKS l out dir path):=⟨_,rfl⟩;rw[←hits2];obtain⟨G2,hG2e⟩:∃G2,itH G u its2++.map es' cl::L=G2:=⟨_,rfl⟩;have hB:IB 194 b l oes ocl u its2 G2:=by rw[←hG2e];exact(hb.put its2).app _
 have c0:hget G2 G.length=.map es' cl:=by rw[←hG2e];exact iS (aW0 G u its2)
 rw[hG2e];by_cases hin:i<ns.length
 ·have hmem:ns[i]∈aC3 l out dir:=by rw[←hns];exact zAK hin
  obtain⟨n,hlk,hsm2,hno⟩:=aSl hmem;have hnil:ns[i].length≤1073741824:=smN_keys hn dir _ (zAm.2 ⟨(ns[i],n),hsm2,rfl⟩);obtain⟨q,hq'⟩:=mem_nmE (b:=0) hsm2;have hqe:(AV.str ns[i],ndA n,q)∈es':=by rw[hes',hes];exact zBb.2 ⟨hq',by unfold outQ;simpa[ndA]using hno⟩
  obtain⟨j,hj, -⟩:=hsk'.at_ hqe rfl;simp only at hj;have k1:keysIn .string es'=True:=zAC hsk'.ki;obtain⟨hpar,hnin, -⟩:=aEg hc hd hsm2;have hdp:=aAu hw hpar;have hpl:(path.length+1)+ns[i].length≤dep l n.id * 1073741825:=by omega
  have htk:(ns.take (i+1)).flatMap (aKS l out dir path)=(ns.take i).flatMap (aKS l out dir path)++aKS l out dir path ns[i]:=by
   rw[zAk hin,List.flatMap_append,List.flatMap_singleton]
  have hpc:aKS l out dir path ns[i]=⟨path++(47::ns[i]),n.id,n.data⟩::(if dirI n.id=true then blw l out n.id (path++(47::ns[i]))else[]):=by unfold aKS;rw[hlk]
  have hsz:its2.length+(aKS l out dir path ns[i]).length≤1073741824:=by
   have h1:((ns.take (i+1)).flatMap (aKS l out dir path)).length≤(blw l out dir path).length:=by
    rw[hstep];conv=>rhs;rw[←zAS (i+1) ns,List.flatMap_append,zAa]
    omega
   rw[htk,zAa]at h1;rw[hits2,zAa];omega
  have hdl:=aC2 hw n.id;have r3:=aG hB.b3 trivial;have r4:=aG hB.b4 trivial;have r5:=aG hB.b5 trivial;have w5:=cC hB.b5 trivial;have l5:=hB.lt;have r3':∀c L,hget (aB G2 (u+5) c++L) (u+3)=_:=fun c L=>aD (aH hB.b3 (by omega) c) trivial L
  have w3':∀c c' L,aB (aB G2 (u+5) c++L) (u+3) c'=aB (aB G2 (u+5) c) (u+3) c'++L:=fun c c' L=>bD (by rw[aC];omega) L c'
  have r4':∀c c' L,hget (aB (aB G2 (u+5) c) (u+3) c'++L) (u+4)=_:=fun c c' L=>aD (aH (aH hB.b4 (by omega) c) (by omega) c') trivial L
  have rn':∀c c' L,hget (aB (aB G2 (u+5) c) (u+3) c'++L) G2.length=L.getD 0 .gone:=fun c c' L=>iS (by rw[aC,aC])
  have hcs:(itC its2).length=its2.length * 3:=aWY _;have hq2:((its2.length+1) * 40≤140737488355328)=True:=zAC (by rw[hpc]at hsz;simp only[zAc]at hsz;omega)
  have hsp:bG [AV.osl 3 (u+5) (its2.length+1) 0 its2.length its2.length] 0 [.osl 3 (u+5) (its2.length+2) 0 (its2.length+1) (its2.length+1)]=[.osl 3 (u+5) (its2.length+2) 0 (its2.length+1) (its2.length+1)]:=rfl;have hgd:(ns.map AV.str).getD i .top=.str ns[i]:=by simp[hin]
  have hq1:(∀e,e=AV.agg [.str (path++47::ns[i]),.int .i64 n.id,.str n.data]→e.cells.length=3)=True:=zAC (fun e he=>by rw[he];rfl)
  obtain⟨x,hx⟩:∃x:Itm,x=⟨path++(47::ns[i]),n.id,n.data⟩:=⟨_,rfl⟩;have hput:∀Y,aB (aB G2 (u+5) (.cells (its2.length+2) (itC its2++[.str (path++47::ns[i]),.int .i64 n.id,.str n.data]))) (u+3) (.cells 0 [.osl 3 (u+5) (its2.length+2) 0 (its2.length+1) (its2.length+1)])++Y=itH (G2++Y) u (its2++[x]):=fun Y=>by
   rw[aWZ hB.lt,hx];unfold itH;rw[aWX,zAa];rfl
  have hend:∀js Y,itH (G2++Y) u js=itH G u js++.map es' cl::(L++Y):=fun js Y=>by
   rw[aWZ hB.lt,←hG2e,aWZ (by rw[aW0];exact hlt),aUA]
   simp
  rw[←hx]at hpc;have hms:ns.length-(i+1)<ns.length-i:=by omega
  cases hdn:dirI n.id with
  |false=>
   repeat' first|((first|refine gQ (aA0 _) ?_|refine gS ?_);simp only[go_sem,c0,hgd,hj,k1,ndA,hin,hcs,hq1,hq2,hsp,r3,r4,r5,w5,r3',w3',r4',rn',hdn])|refine gA ?_|(refine gD ?_ ?_<;>intro h<;>try exact aA h)|fail
   refine⟨(i+1,L++[.cells 0 (ndA n).cells]),hin,hms,zAx _ (aS hin (by omega)),?_⟩
   rw[hput,hend,htk,hpc,hdn,zAe (by simp),hits2,zAr]
   rfl
  |true=>
   repeat' first|((first|refine gQ (aA0 _) ?_|refine gS ?_);simp only[go_sem,c0,hgd,hj,k1,ndA,hin,hcs,hq1,hq2,hsp,r3,r4,r5,w5,r3',w3',r4',rn',hdn])|refine gA ?_|(refine gD ?_ ?_<;>intro h<;>try exact aA h)|fail
   rw[hput];have hB3:=(hB.app [.cells 0 [.int .i64 n.id,.int .i64 n.parent,.str n.name,.int .i64 n.moved.c,.int .i64 n.moved.r,.str n.data,.int .i64 n.wrote.c,.int .i64 n.wrote.r]]).put (its2++[x]);rw[hpc,hdn,zAl rfl,zAc]at hsz;refine gR (ih n.id (path++47::ns[i]) (its2++[x]) _ hdn (by omega) (by rw[zAa,zAc];omega) (by rw[zAa,List.length_singleton];omega) hB3) (cO) ?_
   rintro v H' ⟨rfl,rfl⟩;rw[aUA];simp only[go_sem];repeat' first|(refine gS ?_;simp only[go_sem])|refine gA ?_|(refine gD ?_ ?_<;>intro h<;>try exact aA h)|fail
   refine⟨(i+1,L++[.cells 0 (ndA n).cells]),hin,hms,zAx _ (aS hin (by omega)),?_⟩
   rw[hend,htk,hpc,hdn,zAl rfl,hits2,zAr];rfl
 ·have hie:i=ns.length:=by omega
  repeat' first|(refine gS ?_;simp only[go_sem,hin])|refine gA ?_|(refine gD ?_ ?_<;>intro h<;>try exact aA h)|fail
  refine⟨itH G u its2,.map es' cl::L,.tup [],hG2e.symm,by rw[aW0];exact zAf _,by rw[aW0];exact aV1 its2 hlt,.cl _ (.tup _ fun _ _ hx=>by simp at hx),rfl,?_⟩
  rw[hits2,hie,zAD,hstep]
theorem aO1(b:Bool)(l:List Nd)(dir:Int)(hw:Wfr l)(hd:dirI dir=true)(hl:l.length≤1073741824)(hn:SmN l)(H:AHeap):bH Tryz.prog 176 [.sl b (l.map ndA),.int .i64 dir] H (.sl false ((iL l dir).map itA)):=by
 refine fO Tryz.func176 ?_;unfold iL;cases hs:chk l with
 |false=>
  rw[zAe (by simp),zAZ]
  repeat' first|((first|refine gQ (jK _ _) ?_|refine gS ?_);simp only[go_sem,hs])|refine gA ?_|(refine gD ?_ ?_<;>intro h<;>try exact aA h)|fail
  exact dY (.sl _ _)
 |true=>
  rw[zAl rfl];have hab:=aKw b l dir hl;obtain⟨up,hup⟩:∃up,up=kM l dir:=⟨_,rfl⟩;rw[←hup]at hab;have k0:keysIn (.int .i64) []=True:=zAC (fun p hp=>by cases hp)
  have hul:up.length≤1073741824:=by
   rw[hup,kM,zAl hs];exact zAO (aCn hw _ _) hl
  repeat' first|((first|refine gQ (jK _ _) ?_|refine gS ?_);simp only[go_sem,hs,k0])|refine gA ?_|(refine gD ?_ ?_<;>intro h<;>try exact aA h)|fail
  have e0:hget (H++[.cells 0 [.sl b (l.map ndA)]]) H.length=.cells 0 [.sl b (l.map ndA)]:=by simp only[go_sem]
  refine gB (ι:=List (AV×AV×Nat)×Nat) (fun _=>[(1,.int .i64 dir),(2,.ref H.length 0 0),(5,.ref (H.length+2) 0 0)]) (fun s=>H++[.cells 0 [.sl b (l.map ndA)],.map s.1 s.2,.cells 0 [.map (H.length+1)]]) (fun s=>OutOk (dir::up) s.1) ?_ fun⟨oes,ocl⟩ ho=>?_
  ·refine aI (ι:=Nat×List (AV×AV×Nat)×Nat) (fun s=>[(1,.int .i64 dir),(2,.ref H.length 0 0),(5,.ref (H.length+2) 0 0),(18,.sl false (up.map bK)),(19,.int .i64 up.length),(20,.int .i64 s.1)]) (fun s=>H++[.cells 0 [.sl b (l.map ndA)],.map s.2.1 s.2.2,.cells 0 [.map (H.length+1)]])
    (fun s=>s.1≤up.length∧OutOk (dir::up.take s.1) s.2.1) (fun s=>up.length-s.1) (0,eO (.int .i64 dir) (.bool true) [] 0,_) ⟨zAo _,out_put out_nil dir 0⟩ ?_ rfl ?_
   ·simp[go_sem]
   rintro⟨i,oes,ocl⟩ ⟨hi,ho⟩;simp only at hi ho ⊢;by_cases hin:i<up.length
   ·have hgd:(up.map bK).getD i .top=bK up[i]:=by simp[hin]
    have k1:keysIn (.int .i64) oes=True:=zAC ho.ki;have ho2:=out_put ho up[i] ocl;have htk:dir::up.take i++[up[i]]=dir::up.take (i+1):=by rw[zAk hin];rfl
    rw[htk]at ho2;repeat' first|(refine gS ?_;simp only[go_sem,hin,hgd,bK,k1])|refine gA ?_|(refine gD ?_ ?_<;>intro h<;>try exact aA h)|fail
    refine⟨(i+1,_,_),⟨hin,ho2⟩,by simp only;omega,zAx _ (aS hin (by omega)),rfl⟩
   ·have hie:i=up.length:=by omega
    rw[hie,zAD]at ho;repeat' first|(refine gS ?_;simp only[go_sem,hin])|refine gA ?_|(refine gD ?_ ?_<;>intro h<;>try exact aA h)|fail
    exact⟨(oes,ocl),ho,rfl⟩
  simp only;have hout:dir::up=aVJ l dir:=by rw[hup];rfl
  rw[hout]at ho;refine xR (ι:=Unit) (fun _=>[(1,.int .i64 dir),(2,.ref H.length 0 0),(5,.ref (H.length+2) 0 0),(8,.ref (H.length+3) 0 0)]) (fun _=>H++[.cells 0 [.sl b (l.map ndA)],.map oes ocl,.cells 0 [.map (H.length+1)],.cells 0 [.sl true []]]) (fun _=>True) ?_ fun _ _=>?_
  ·repeat' first|(refine gS ?_;simp only[go_sem])|refine gA ?_|(refine gD ?_ ?_<;>intro h<;>try exact aA h)|fail
   exact⟨(),trivial⟩
  refine xR (ι:=Unit) (fun _=>[(1,.int .i64 dir),(2,.ref H.length 0 0),(5,.ref (H.length+2) 0 0),(8,.ref (H.length+3) 0 0),(9,.ref (H.length+4) 0 0)]) (fun _=>H++[.cells 0 [.sl b (l.map ndA)],.map oes ocl,.cells 0 [.map (H.length+1)],.cells 0 [.sl true []],.cells 0 [.nilfunc]]) (fun _=>True) ?_ fun _ _=>?_
  ·repeat' first|(refine gS ?_;simp only[go_sem])|refine gA ?_|(refine gD ?_ ?_<;>intro h<;>try exact aA h)|fail
   exact⟨(),trivial⟩
  refine xR (ι:=Unit) (fun _=>[(1,.int .i64 dir),(2,.ref H.length 0 0),(5,.ref (H.length+2) 0 0),(8,.ref (H.length+3) 0 0),(9,.ref (H.length+4) 0 0)]) (fun _=>H++[.cells 0 [.sl b (l.map ndA)],.map oes ocl,.cells 0 [.map (H.length+1)],.cells 0 [.sl true []],.cells 0 [.func (.func 194) [] [.ref H.length 0 0,.ref (H.length+2) 0 0,.ref (H.length+3) 0 0,.ref (H.length+4) 0 0]]]) (fun _=>True) ?_ fun _ _=>?_
  ·repeat' first|(refine gS ?_;simp only[go_sem])|refine gA ?_|(refine gD ?_ ?_<;>intro h<;>try exact aA h)|fail
   exact⟨(),trivial⟩
  refine rF (H.length+3) 0 3 (by simp only[go_sem];rfl) rfl ?_
  simp only[go_sem];have hB:IB 194 b l oes ocl H.length [] (H++[.cells 0 [.sl b (l.map ndA)],.map oes ocl,.cells 0 [.map (H.length+1)],.cells 0 [.osl 3 (H.length+5) 1 0 0 0],.cells 0 [.func (.func 194) [] [.ref H.length 0 0,.ref (H.length+2) 0 0,.ref (H.length+3) 0 0,.ref (H.length+4) 0 0]],.cells 1 []]):=
   ⟨by simp only[go_sem],by simp only[go_sem],by simp only[go_sem],by first|(simp only[go_sem];done)|(simp only[go_sem];rfl),by simp only[go_sem],by first|(simp only[go_sem];done)|(simp only[go_sem];rfl)⟩
  have hbl:=aOi hs hw (aVJ l dir) dir [] hd;have hdl:=aC2 hw dir;repeat' first|(refine gS ?_;simp only[go_sem])|refine gA ?_|(refine gD ?_ ?_<;>intro h<;>try exact aA h)|fail
  refine gR (aV2 hs hw hl hn ho ocl H.length (l.length+1) dir [] [] _ hd (by omega) (zAo _) (by rw[zAv];omega) hB) (cO) ?_
  rintro v H' ⟨rfl,rfl⟩;rw[zAW];have hB2:=hB.put (blw l (aVJ l dir) dir []);have c3:=hB2.b3;have c5:=hB2.b5;simp only[go_sem];repeat' first|(refine gS ?_;simp only[go_sem,c3])|refine gA ?_|(refine gD ?_ ?_<;>intro h<;>try exact aA h)|fail
  obtain⟨L,hL⟩:=(show ∃L,itH (H++_) H.length (blw l (aVJ l dir) dir [])=H++L from eX (eX ⟨_,rfl⟩ (by omega) _) (by omega) _)
  rw[hL]at c5 ⊢;exact iU (cs:=itC (blw l (aVJ l dir) dir [])) (es:=(blw l (aVJ l dir) dir []).map itA) (rest:=[]) (by omega) c5 (by rw[zAd];rfl) (by simp) (fun e he=>by obtain⟨x,_,rfl⟩:=zAm.1 he;rfl) (fun e he=>by obtain⟨x,_,rfl⟩:=zAm.1 he;exact(by simp only[go_sem])) rfl
end Go.Proofs.YtennnelammaapaaGreatDoor
