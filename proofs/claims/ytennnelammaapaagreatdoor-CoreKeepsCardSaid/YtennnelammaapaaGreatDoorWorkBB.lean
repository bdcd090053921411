/- What the functions of this seat answer (28 of 38). No condition. -/
import Derived.Test.YtennnelammaapaaGreatDoorWorkBA
set_option linter.unusedSimpArgs false
set_option linter.unusedVariables false
set_option maxRecDepth 100000
set_option maxHeartbeats 16000000
namespace Go.Proofs.YtennnelammaapaaGreatDoor
section
def lsA(ps:List (Bool×List Evt)):List AV:=ps.map fun p=>.sl p.1 (p.2.map fF)
def fV(ps:List (Bool×List Evt))(i:Nat):List Evt:=(ps.take i).flatMap (·.2)
theorem yM{ps:List (Bool×List Evt)}{i:Nat}(h:i<ps.length):fV ps (i+1)=fV ps i++ps[i].2:=by
 unfold fV;rw[zAk h,List.flatMap_append,List.flatMap_singleton]
theorem aO7(ps:List (Bool×List Evt))(i:Nat):(fV ps i).length≤(fV ps ps.length).length:=by
 unfold fV;rw[zAD];conv=>rhs;rw[←zAS i ps,List.flatMap_append,zAa]
 omega
def evZ:AV:=.agg [.int .i64 0,.str []]
theorem aLM(n:Nat):(List.flatMap AV.cells (List.replicate n evZ)).length=n * 2:=by
 induction n with
 |zero=>rfl
 |succ n ih=>rw[zB3,zBd,zAa,ih];simp[evZ,AV.cells];omega
theorem aHr{ps:List (Bool×List Evt)}{i:Nat}(h:i<ps.length):(lsA ps).getD i .top=.sl ps[i].1 (ps[i].2.map fF):=by simp[lsA,h]
theorem aSQ(l:List Evt):List.flatMap AV.cells (l.map fF)=evC l:=rfl
theorem aGa(a b:List Evt):evC (a++b)=evC a++evC b:=by simp[evC]
theorem aSR(l:List Evt):(evC l).all AV.one=true:=by
 rw[zAJ];intro x hx;unfold evC at hx;rw[zBC]at hx;obtain⟨y,hy,hx⟩:=hx;obtain⟨t, -,rfl⟩:=zAm.1 hy;simp only[fF,AV.cells,zAs,zAH,zBv]at hx;rcases hx with rfl|rfl<;>rfl
theorem aCD(l:List Evt):(∀e∈l.map fF,e.cells.length=2)=True:=zAC fun e he=>by
 obtain⟨x,_,rfl⟩:=zAm.1 he;rfl
def zO:List Pl:=[.pure 0,.pure 0,.free,.free,.free,.pure 0,.free,.free,.pure 0,.free,.eff [false,false,false,false]]
def zP:List Pl:=[.pure 0,.pure 0,.free,.pure 0,.free,.pure 0,.pure 0,.pure 0,.free,.pure 0,.pure 0,.free,.free,.pure 0,.free,.pure 0,.eff [false,true,true,true,false,false,false,false,false,false],.free]
attribute [go_sem] zO zP
theorem aGb(f:Bool)(ps:List (Bool×List Evt))(hp:ps.length≤1073741824)(hl:(fV ps ps.length).length≤4294967296)(H:AHeap):
  bH Tryz.prog 174 [.sl f (lsA ps)] H (.sl false ((fV ps ps.length).map fF)):=by
 refine fO Tryz.func174 ?_;have hle:=aO7 ps;have hlen:(lsA ps).length=ps.length:=by simp[lsA]
 repeat' first|(refine gS ?_;simp only[go_sem,hlen])|refine gA ?_|(refine gD ?_ ?_<;>intro h<;>try exact aA h)|fail
 refine gB (ι:=Unit) (fun _=>[(0,.sl f (lsA ps)),(3,.int .i64 (fV ps ps.length).length)]) (fun _=>H) (fun _=>True) ?_ fun _ _=>?_
 ·refine aI (ι:=Nat) (fun i=>[(0,.sl f (lsA ps)),(3,.int .i64 (fV ps i).length),(9,.sl f (lsA ps)),(10,.int .i64 ps.length),(11,.int .i64 i)]) (fun _=>H) (fun i=>i≤ps.length) (fun i=>ps.length-i) 0 (zAo _) ?_ rfl ?_
  ·simp[go_sem,fV]
  intro i hi;by_cases hin:i<ps.length
  ·have hgd:=aHr hin;have h1:=hle (i+1);rw[yM hin,zAa]at h1;have hw:IntKind.i64.wrap (((fV ps i).length:Int)+(ps[i].2.length:Int))=((fV ps (i+1)).length:Int):=by rw[wI,yM hin,zAa];omega
   repeat' first|(refine gS ?_;simp only[go_sem,hin,hgd,hlen,hw])|refine gA ?_|(refine gD ?_ ?_<;>intro h<;>try exact aA h)|fail
   exact⟨i+1,hin,by omega,rfl,zAx _ (aS hin (by omega))⟩
  ·have hie:i=ps.length:=by omega
   subst hie;repeat' first|(refine gS ?_;simp only[go_sem])|refine gA ?_|(refine gD ?_ ?_<;>intro h<;>try exact aA h)|fail
   exact⟨(),trivial⟩
 obtain⟨n,hn⟩:∃n,n=(fV ps ps.length).length:=⟨_,rfl⟩;rw[←hn];rw[←hn]at hl hle;have lz:=aLM n;have hz:evZ=.agg [.int .i64 0,.str []]:=rfl;repeat' first|(refine gS ?_;simp only[go_sem,hlen,←hz,lz])|refine gA ?_|(refine gD ?_ ?_<;>intro h<;>try exact aA h)|fail
 obtain⟨Z,hZ⟩:∃Z,Z=List.flatMap AV.cells (List.replicate n evZ):=⟨_,rfl⟩;rw[←hZ]at lz ⊢;refine aI (ι:=Nat) (fun i=>[(3,.int .i64 (fV ps i).length),(6,.osl 2 H.length 1 0 n n),(22,.sl f (lsA ps)),(23,.int .i64 ps.length),(24,.int .i64 i)]) (fun i=>H++[.cells 1 (evC (fV ps i)++Z.drop ((fV ps i).length * 2))]) (fun i=>i≤ps.length) (fun i=>ps.length-i) 0 (zAo _) ?_ ?_ ?_
 ·simp[go_sem,fV]
 ·simp[fV,evC]
 intro i hi;by_cases hin:i<ps.length
 ·have hgd:=aHr hin;have h1:=hle (i+1);have hs:=yM hin;rw[hs,zAa]at h1;have hw:IntKind.i64.wrap (((fV ps i).length:Int)+(ps[i].2.length:Int))=((fV ps (i+1)).length:Int):=by rw[wI,hs,zAa];omega
  have hlc:(evC (fV ps i)).length=(fV ps i).length * 2:=aDk _;have hlx:(evC ps[i].2).length=ps[i].2.length * 2:=aDk _;have hsp:bG (evC (fV ps i)++Z.drop ((fV ps i).length * 2)) ((fV ps i).length * 2) (evC ps[i].2)=evC (fV ps (i+1))++Z.drop ((fV ps (i+1)).length * 2):=by
   rw[cD hlc,hlx,zCs,hs,aGa,zAa,zAr,zCy]
  repeat' first|(refine gS ?_;simp only[go_sem,hin,hgd,hlen,hw,aSQ,hsp,hlc,hlx,aSR,aCD,zAX,lz])|refine gA ?_|(refine gD ?_ ?_<;>intro h<;>try exact aA h)|fail
  exact⟨i+1,hin,by omega,⟨rfl,zAx _ (aS hin (by omega))⟩,rfl⟩
 ·have hie:i=ps.length:=by omega
  subst hie;repeat' first|(refine gS ?_;simp only[go_sem,hin])|refine gA ?_|(refine gD ?_ ?_<;>intro h<;>try exact aA h)|fail
  exact iU (cs:=evC (fV ps ps.length)++Z.drop ((fV ps ps.length).length * 2)) (es:=(fV ps ps.length).map fF) (rest:=Z.drop ((fV ps ps.length).length * 2)) (zAf _) (by simp only[go_sem]) rfl (by rw[zAn,hn]) (fun e he=>by obtain⟨x,_,rfl⟩:=zAm.1 he;rfl) (fun e he=>by obtain⟨x,_,rfl⟩:=zAm.1 he;exact(by simp only[go_sem])) rfl
theorem aLN(f o:Bool)(e:List Evt)(he:e.length≤1073741824)(u:Nat)(H:AHeap)(hu:hget H u=.cells 0 [.sl f (e.map fF),.bool o]):bH Tryz.prog 175 [.ref u 0 0] H (.int .i64 ((8-e.length:Nat):Int)):=by
 refine fO Tryz.func175 ?_;have hw:max (IntKind.i64.wrap (8-(e.length:Int))) 0=((8-e.length:Nat):Int):=by rw[wI];omega
 repeat' first|(refine gS ?_;simp only[go_sem,hu,hw])|refine gA ?_|(refine gD ?_ ?_<;>intro h<;>try exact aA h)|fail
 exact cL (.refl _)
theorem aGc(f f1:Bool)(a:List Evt)(ha:a.length≤1073741824)(H:AHeap):bH Tryz.prog 174 [.sl f [.sl f1 (a.map fF)]] H (.sl false (a.map fF)):=by
 have h1:=aGb f [(f1,a)] (by simp) (by simp[fV];omega) H
 simpa[lsA,fV]using h1
theorem aSS(f f1 f2:Bool)(a b:List Evt)(ha:a.length≤1073741824)(hb:b.length≤1073741824)(H:AHeap):bH Tryz.prog 174 [.sl f [.sl f1 (a.map fF),.sl f2 (b.map fF)]] H (.sl false ((a++b).map fF)):=by
 have h1:=aGb f [(f1,a),(f2,b)] (by simp) (by simp[fV];omega) H
 simpa[lsA,fV]using h1
theorem aST(f f1 f2 f3:Bool)(a b c:List Evt)(ha:a.length≤1073741824)(hb:b.length≤1073741824)(hc:c.length≤1073741824)(H:AHeap):bH Tryz.prog 174 [.sl f [.sl f1 (a.map fF),.sl f2 (b.map fF),.sl f3 (c.map fF)]] H (.sl false ((a++b++c).map fF)):=by
 have h1:=aGb f [(f1,a),(f2,b),(f3,c)] (by simp) (by simp[fV];omega) H
 simpa[lsA,fV]using h1
theorem aSU(f f2 o:Bool)(e l:List Evt)(he:e.length≤1073741824)(hl:l.length≤1073741824)(H:AHeap):bH Tryz.prog 133 [.agg [.sl f (e.map fF),.bool o],.sl f2 (l.map fF)] H (.agg [.sl false ((tO e o l).1.map fF),.bool (tO e o l).2]):=by
 refine fO Tryz.func133 ?_;cases o with
 |true=>
  have h1:=aGc true f e he;unfold tO;repeat' first|(refine gS ?_;simp only[go_sem])|refine gA ?_|(refine gD ?_ ?_<;>intro h<;>try exact aA h)|fail
  exact dY (.refl _)
 |false=>
  have hp:tO e false l=if 8-e.length<l.length then(e++l.take (8-e.length)++[⟨9,[]⟩],true)else(e++l,false):=rfl
  have h3:=aST true f true true e (l.take (8-e.length)) [⟨9,[]⟩] he (by rw[zAL];omega) (by simp)
  have h2:=aSS true f f2 e l he hl;have ht:List.take (8-e.length) (List.map fF l)=List.map fF (l.take (8-e.length)):=zBG.symm;by_cases hs:8-e.length<l.length
  ·rw[hp,zAl hs];have h5:8-e.length≤l.length:=by omega
   repeat' first|(refine gS ?_;simp only[go_sem])|refine gA ?_|(refine gD ?_ ?_<;>intro h<;>try exact aA h)|fail
   refine gR (aLN f false e he H.length _ (by simp only[go_sem])) (cO) ?_
   rintro v H' ⟨rfl,rfl⟩;simp only[go_sem];repeat' first|((first|refine mx [7] zO ?_|refine gS ?_);simp only[go_sem,hs,h5,ht])|refine gA ?_|(refine gD ?_ ?_<;>intro h<;>try exact aA h)|fail
   exact dY (.refl _)
  ·rw[hp,zAe hs];repeat' first|(refine gS ?_;simp only[go_sem])|refine gA ?_|(refine gD ?_ ?_<;>intro h<;>try exact aA h)|fail
   refine gR (aLN f false e he H.length _ (by simp only[go_sem])) (cO) ?_
   rintro v H' ⟨rfl,rfl⟩;simp only[go_sem];repeat' first|(refine gS ?_;simp only[go_sem,hs])|refine gA ?_|(refine gD ?_ ?_<;>intro h<;>try exact aA h)|fail
   exact dY (.refl _)
theorem aO8(f o:Bool)(e:List Evt)(n:Int)(he:e.length≤1073741824)(H:AHeap):bH Tryz.prog 167 [.agg [.sl f (e.map fF),.bool o],.int .i64 n] H (.tup [.agg [.sl false ((e.drop (min n.toNat e.length)).map fF),.bool o],.sl false ((e.take (min n.toNat e.length)).map fF)]):=by
 refine fO Tryz.func167 ?_;obtain⟨k,hk⟩:∃k,k=min n.toNat e.length:=⟨_,rfl⟩;have hk2:min (max n 0) (e.length:Int)=(k:Int):=by omega
 have hke:k≤e.length:=by omega
 have h1:=aGc true f (e.drop k) (by rw[zAX];omega)
 have h2:=aGc true true (e.take k) (by rw[zAL];omega)
 have t1:List.take k (List.map fF e)=List.map fF (e.take k):=zBG.symm;have t2:List.drop k (List.map fF e)=List.map fF (e.drop k):=zCI.symm;rw[←hk];repeat' first|((first|refine mx [2] zP ?_|refine gS ?_);simp only[go_sem,hk2,hke,t1,t2,aCD])|refine gA ?_|(refine gD ?_ ?_<;>intro h<;>try exact aA h)|fail
 exact dY (.refl _)
end
section
structure DB (F:FuncId) (H:AHeap) (evs:List Evt) (l:List Itm) (G:AHeap):Prop where
 e:EB H.length evs G
 c:hget G (H.length+2)=.cells 0 [.func (.func F) [] [.ref H.length 0 0]]
 mc:hget G (H.length+4)=.cells 0 [.map (H.length+3)]
 pre:∃M,G=H++M
 m:∃es cl,hget G (H.length+3)=.map es cl∧ItM l es
theorem DB.app{F:FuncId}{H:AHeap}{evs:List Evt}{l:List Itm}{G:AHeap}(k:DB F H evs l G)(L:AHeap):DB F H evs l (G++L):=
 ⟨k.e.app L,aD k.c trivial L,aD k.mc trivial L,let⟨M,e⟩:=k.pre;⟨M++L,by rw[e,zAr]⟩,let⟨es,cl,e1,e2⟩:=k.m;⟨es,cl,aD e1 trivial L,e2⟩⟩
theorem DB.set{F:FuncId}{H:AHeap}{evs:List Evt}{l:List Itm}{G:AHeap}(k:DB F H evs l G){i:Nat}(hi:H.length+4<i)(X:ABlk):DB F H evs l (aB G i X):=
 ⟨k.e.set (by omega) X,aH k.c (by omega) X,aH k.mc (by omega) X,eX k.pre (by omega) X,let⟨es,cl,e1,e2⟩:=k.m;⟨es,cl,aH e1 (by omega) X,e2⟩⟩
theorem DB.setm{F:FuncId}{H:AHeap}{evs:List Evt}{l l':List Itm}{G:AHeap}(k:DB F H evs l G){es:List (AV×AV×Nat)}(he:ItM l' es)(cl:Nat):DB F H evs l' (aB G (H.length+3) (.map es cl)):=
 ⟨k.e.set (by omega) _,aH k.c (by omega) _,aH k.mc (by omega) _,eX k.pre (by omega) _,⟨es,cl,aX (by have:=aV k.mc trivial;omega) _,he⟩⟩
theorem DB.ev{F:FuncId}{H:AHeap}{evs:List Evt}{l:List Itm}{G:AHeap}(k:DB F H evs l G)(es:List Evt):DB F H es l (evH G H.length es):=
 ⟨EB.put k.e.lt es,aF9 es k.c (by omega) (by omega),aF9 es k.mc (by omega) (by omega),by unfold evH;exact eX (eX k.pre (by omega) _) (zAf _) _,let⟨xs,cl,e1,e2⟩:=k.m;⟨xs,cl,aF9 es e1 (by omega) (by omega),e2⟩⟩
theorem aW8{l:List Itm}{i:Nat}(h:i<l.length):(l.map itA).getD i .top=itA l[i]:=by simp[h]
theorem aSV(b1 b2:Bool)(l1 l2:List Nd)(dir:Int)(hw1:Wfr l1)(hw2:Wfr l2)(hd:dirI dir=true)(hl1:l1.length≤1073741824)(hl2:l2.length≤1073741824)(hn1:SmN l1)(hn2:SmN l2)(H:AHeap):
  bH Tryz.prog 134 [.sl b1 (l1.map ndA),.sl b2 (l2.map ndA),.int .i64 dir] H (.sl false ((aCj (iL l1 dir) (iL l2 dir)).map fF)):=by
 refine fO Tryz.func134 ?_;have i1:=aO1 b1 l1 dir hw1 hd hl1 hn1;have i2:=aO1 b2 l2 dir hw2 hd hl2 hn2;obtain⟨was,hwas⟩:∃x,x=iL l1 dir:=⟨_,rfl⟩;obtain⟨is,his⟩:∃x,x=iL l2 dir:=⟨_,rfl⟩;have hlen:∀(l:List Nd),Wfr l→l.length≤1073741824→(iL l dir).length≤1073741824:=fun l hw hl=>by
  unfold iL;split
  ·rename_i hc;exact zAO (aOi hc hw (aVJ l dir) dir [] hd) hl
  ·exact zAo _
 have hlw:was.length≤1073741824:=by rw[hwas];exact hlen l1 hw1 hl1
 have hli:is.length≤1073741824:=by rw[his];exact hlen l2 hw2 hl2
 rw[←hwas]at i1 ⊢;rw[←his]at i2 ⊢;clear hwas his;refine xR (ι:=Unit) (fun _=>[(0,.sl b1 (l1.map ndA)),(1,.sl b2 (l2.map ndA)),(2,.int .i64 dir)]) (fun _=>H) (fun _=>True) ?_ fun _ _=>?_
 ·repeat' first|(refine gS ?_;simp only[go_sem])|refine gA ?_|(refine gD ?_ ?_<;>intro h<;>try exact aA h)|fail
  exact⟨(),trivial⟩
 refine xR (ι:=Unit) (fun _=>[(7,.sl false (was.map itA)),(8,.sl false (is.map itA))]) (fun _=>H) (fun _=>True) ?_ fun _ _=>?_
 ·have ct0:=i1;have ct1:=i2;repeat' first|(refine gS ?_;simp only[go_sem])|refine gA ?_|(refine gD ?_ ?_<;>intro h<;>try exact aA h)|fail
  exact⟨(),trivial⟩
 refine xR (ι:=Unit) (fun _=>[(7,.sl false (was.map itA)),(8,.sl false (is.map itA)),(9,.ref H.length 0 0)]) (fun _=>H++[.cells 0 [.sl true []]]) (fun _=>True) ?_ fun _ _=>?_
 ·repeat' first|(refine gS ?_;simp only[go_sem])|refine gA ?_|(refine gD ?_ ?_<;>intro h<;>try exact aA h)|fail
  exact⟨(),trivial⟩
 refine rF H.length 0 2 (by first|(simp only[go_sem];done)|(simp only[go_sem];rfl)) rfl ?_
 simp only[go_sem];repeat' first|(refine gS ?_;simp only[go_sem])|refine gA ?_|(refine gD ?_ ?_<;>intro h<;>try exact aA h)|fail
 -- what is there now, by its path
 refine gB (ι:=AHeap) (fun _=>[(7,.sl false (was.map itA)),(8,.sl false (is.map itA)),(9,.ref H.length 0 0),(10,.ref (H.length+2) 0 0),(11,.ref (H.length+4) 0 0)]) (fun G=>G) (fun G=>DB 177 H [] is G) ?_ fun G1 hD1=>?_
 ·refine aI (ι:=Nat×AHeap) (fun s=>[(7,.sl false (was.map itA)),(8,.sl false (is.map itA)),(9,.ref H.length 0 0),(10,.ref (H.length+2) 0 0),(11,.ref (H.length+4) 0 0),(36,.sl false (is.map itA)),(37,.int .i64 is.length),(38,.int .i64 s.1)]) (fun s=>s.2) (fun s=>s.1≤is.length∧DB 177 H [] (is.take s.1) s.2) (fun s=>is.length-s.1) (0,_) ⟨zAo _,?_⟩ ?_ rfl ?_
  ·exact⟨⟨by first|(simp only[go_sem];done)|(simp only[go_sem];rfl),by first|(simp only[go_sem];done)|(simp only[go_sem];rfl)⟩,by simp only[go_sem],by simp only[go_sem],⟨_,rfl⟩,⟨[],0,by simp only[go_sem],aW1⟩⟩
  ·simp[go_sem]
  rintro⟨i,G⟩ ⟨hi,hD⟩;simp only at hi hD ⊢;by_cases hin:i<is.length
  ·obtain⟨es,cl,e1,he⟩:=hD.m;have r3:=aG e1 trivial;have r4:=aG hD.mc trivial;have w3:=cC e1 trivial;have k1:keysIn .string es=True:=zAC he.ki;have hgd:=aW8 hin;have he2:=aW2 he is[i] cl;rw[←zAk hin]at he2;repeat' first|(refine gS ?_;simp only[go_sem,hin,hgd,itA,k1,r3,r4,w3])|refine gA ?_|(refine gD ?_ ?_<;>intro h<;>try exact aA h)|fail
   exact⟨(i+1,_),⟨hin,(hD.setm he2 _).app _⟩,by simp only;omega,zAx _ (aS hin (by omega)),rfl⟩
  ·have hie:i=is.length:=by omega
   rw[hie,zAD]at hD;repeat' first|(refine gS ?_;simp only[go_sem,hin])|refine gA ?_|(refine gD ?_ ?_<;>intro h<;>try exact aA h)|fail
   exact⟨G,hD,rfl⟩
 repeat' first|((first|refine gQ (aW4 _ _) ?_|refine gS ?_);simp only[go_sem])|refine gA ?_|(refine gD ?_ ?_<;>intro h<;>try exact aA h)|fail
 let E:Nat→List Evt:=fun k=>((was.drop k).reverse.filter (aEb is)).map fun t=>⟨1,t.path⟩
 have hEl:∀k,(E k).length≤was.length:=fun k=>by
  have h1:=zA2 (aEb is) (was.drop k).reverse;simp only[E,zAn,List.length_reverse,zAX]at h1 ⊢;omega
 have hEs:∀i (h:i<was.length),E i=E (i+1)++if aEb is was[i]=true then[⟨1,was[i].path⟩]else[]:=fun i h=>by
  simp only[E];rw[zAi h,List.reverse_cons,zAY,zA9];congr 1;by_cases hg:aEb is was[i]=true
  ·simp[hg]
  ·simp[hg]
 have hEe:E was.length=[]:=by simp[E]
 have hpl:H.length+4<G1.length:=aV hD1.mc trivial;refine gB (ι:=AHeap) (fun _=>[(7,.sl false (was.map itA)),(8,.sl false (is.map itA)),(9,.ref H.length 0 0),(10,.ref (H.length+2) 0 0),(11,.ref (H.length+4) 0 0)]) (fun G=>G) (fun G=>DB 177 H (E 0) is G) ?_ fun G2 hD2=>?_
 ·refine aJ4 [(7,.sl false (was.map itA)),(8,.sl false (is.map itA)),(9,.ref H.length 0 0),(10,.ref (H.length+2) 0 0),(11,.ref (H.length+4) 0 0),(48,.func (.func 195) [] [.cptr [.sl false (was.map itA)]])] (by simp[go_sem]) ?_
  refine vE rfl (cO) fun y LB hLB=>?_
  have hLv:LB.live:=by rw[hLB];trivial
  refine(aV3 false was y (fun k G=>DB 177 H (E k) is G∧hget G G1.length=LB) (fun i h G hJ=>?_) (by omega) _ ⟨by rw[hEe];exact hD1.app _,eZ G1 _⟩).mono fun _ H' h=>?_
  ·obtain⟨hD,hLg⟩:=hJ;refine aCa hLg hLB rfl rfl rfl rfl fun BB fin hBB hlB hf1 hf2=>?_
   have f3:=aG hLg hLv;have g3:=cC hLg hLv;simp only[aAW];refine dR rfl ?_;simp only[go_sem,f3,g3,itA];have hown:∀X,aB (aB G G1.length X) G1.length LB=G:=fun X=>by rw[bE,cI hLg hLv]
   obtain⟨G3,hG3⟩:∃G3,aB G G1.length BB=G3:=⟨_,rfl⟩;have hl3:=aV hLg hLv;have hlen:G.length=G3.length:=by rw[←hG3];simp[aB]
   have hD3:DB 177 H (E (i+1)) is G3:=by rw[←hG3];exact hD.set hpl BB
   have a3:hget G3 G1.length=BB:=by rw[←hG3];exact aX hl3 BB
   rw[hG3,hlen];clear hLB hBB hf2;obtain⟨es,cl,e1,he⟩:=hD3.m;have p3:=aG a3 hlB;have r3:=aG e1 trivial;have r4:=aG hD3.mc trivial;have rc:=aG hD3.c trivial;have k1:keysIn .string es=True:=zAC he.ki;have hsz:=hEl (i+1);have hyes:aEb is was[i]=true→∀Y,pO G1.length BB fin G3 (fun v G'=>v=.bool true∧DB 177 H (E i) is G'∧hget G' G1.length=LB) true none (evH (G3++Y) H.length (E (i+1)++[⟨1,was[i].path⟩])):=fun hg Y=>by
    rw[aW3 hD3.e.lt];refine⟨aD (aF9 _ a3 (by omega) (by omega)) hlB _,_,Y,rfl,aHo _ _ _,aLK _ (by omega),rfl,?_,?_⟩
    ·rw[hEs i h,zAl hg,hf1];exact(hD3.ev _).set hpl _
    ·rw[hf1];exact aX (by rw[aHo,←hlen];exact hl3) _
   have hno:aEb is was[i]=false→∀Y,pO G1.length BB fin G3 (fun v G'=>v=.bool true∧DB 177 H (E i) is G'∧hget G' G1.length=LB) true none (G3++Y):=fun hg Y=>by
    refine⟨p3 _,G3,Y,rfl,rfl,fun _ _ h=>.inl h,rfl,?_,?_⟩
    ·rw[hEs i h,zAe (by rw[hg];simp),zAd,hf1]
     exact hD3.set hpl _
    ·rw[hf1];exact aX (by rw[←hlen];exact hl3) _
   cases hk:lookI was[i].path is with
   |none=>
    have hkn:=he.no hk;have hg:aEb is was[i]=true:=by unfold aEb;rw[hk]
    repeat' first|(refine gS ?_;simp only[go_sem,hkn,k1,r3,r4,rc,p3])|refine gA ?_|(refine gD ?_ ?_<;>intro h<;>try exact aA h)|fail
    refine gR (aX1 1 was[i].path (E (i+1)) H.length (by omega) _ (hD3.e.app _)) (cO) ?_
    rintro v H' ⟨rfl,rfl⟩;simp only[go_sem];repeat' first|(refine gS ?_;simp only[go_sem])|refine gA ?_|(refine gD ?_ ?_<;>intro h<;>try exact aA h)|fail
    exact hyes hg _
   |some x=>
    obtain⟨j,hkn⟩:=he.yes hk;by_cases hx:x.id=was[i].id
    ·have hg:aEb is was[i]=false:=by unfold aEb;rw[hk];simp[hx]
     repeat' first|(refine gS ?_;simp only[go_sem,hkn,k1,r3,r4,rc,p3,itA,hx])|refine gA ?_|(refine gD ?_ ?_<;>intro h<;>try exact aA h)|fail
     exact hno hg _
    ·have hg:aEb is was[i]=true:=by unfold aEb;rw[hk];simp[hx]
     repeat' first|(refine gS ?_;simp only[go_sem,hkn,k1,r3,r4,rc,p3,itA,hx])|refine gA ?_|(refine gD ?_ ?_<;>intro h<;>try exact aA h)|fail
     refine gR (aX1 1 was[i].path (E (i+1)) H.length (by omega) _ (hD3.e.app _)) (cO) ?_
     rintro v H' ⟨rfl,rfl⟩;simp only[go_sem];repeat' first|(refine gS ?_;simp only[go_sem])|refine gA ?_|(refine gD ?_ ?_<;>intro h<;>try exact aA h)|fail
     exact hyes hg _
  ·refine .inl ⟨.ready,by simp,h.2.trans hLB,fun X=>?_⟩
   exact⟨_,h.1.set (by omega) X,by simp[go_sem],rfl⟩
 obtain⟨m1,m2,m3,m4⟩:=hD2.m;have m5:=hD2.mc;repeat' first|(refine gS ?_;simp only[go_sem,m3,m5])|refine gA ?_|(refine gD ?_ ?_<;>intro h<;>try exact aA h)|fail
 have hD2':DB 177 H (E 0) [] (aB G2 (H.length+3) (.map [] m2)):=hD2.setm aW1 m2;generalize aB G2 (H.length+3) (.map [] m2)=G2' at *;clear hD2 m3 m5 m4
 -- what was there, by its path
 refine gB (ι:=AHeap) (fun _=>[(7,.sl false (was.map itA)),(8,.sl false (is.map itA)),(9,.ref H.length 0 0),(10,.ref (H.length+2) 0 0),(11,.ref (H.length+4) 0 0)]) (fun G=>G) (fun G=>DB 177 H (E 0) was G) ?_ fun G4 hD4=>?_
 ·refine aI (ι:=Nat×AHeap) (fun s=>[(7,.sl false (was.map itA)),(8,.sl false (is.map itA)),(9,.ref H.length 0 0),(10,.ref (H.length+2) 0 0),(11,.ref (H.length+4) 0 0),(72,.sl false (was.map itA)),(73,.int .i64 was.length),(74,.int .i64 s.1)]) (fun s=>s.2) (fun s=>s.1≤was.length∧DB 177 H (E 0) (was.take s.1) s.2) (fun s=>was.length-s.1) (0,_) ⟨zAo _,hD2'⟩ ?_ rfl ?_
  ·simp[go_sem]
  rintro⟨i,G⟩ ⟨hi,hD⟩;simp only at hi hD ⊢;by_cases hin:i<was.length
  ·obtain⟨es,cl,e1,he⟩:=hD.m;have r3:=aG e1 trivial;have r4:=aG hD.mc trivial;have w3:=cC e1 trivial;have k1:keysIn .string es=True:=zAC he.ki;have hgd:=aW8 hin;have he2:=aW2 he was[i] cl;rw[←zAk hin]at he2;repeat' first|(refine gS ?_;simp only[go_sem,hin,hgd,itA,k1,r3,r4,w3])|refine gA ?_|(refine gD ?_ ?_<;>intro h<;>try exact aA h)|fail
   exact⟨(i+1,_),⟨hin,(hD.setm he2 _).app _⟩,by simp only;omega,zAx _ (aS hin (by omega)),rfl⟩
  ·have hie:i=was.length:=by omega
   rw[hie,zAD]at hD;repeat' first|(refine gS ?_;simp only[go_sem,hin])|refine gA ?_|(refine gD ?_ ?_<;>intro h<;>try exact aA h)|fail
   exact⟨G,hD,rfl⟩
 repeat' first|(refine gS ?_;simp only[go_sem])|refine gA ?_|(refine gD ?_ ?_<;>intro h<;>try exact aA h)|fail
 -- what came
 let E2:Nat→List Evt:=fun k=>E 0++((is.take k).filter (aEb was)).map fun t=>⟨2,t.path⟩
 have hE2l:∀k,(E2 k).length≤was.length+is.length:=fun k=>by
  have h1:=zA2 (aEb was) (is.take k);have h2:=hEl 0;simp only[E2,zAa,zAn,zAL]at h1 ⊢;omega
 have hE2s:∀i (h:i<is.length),E2 (i+1)=E2 i++if aEb was is[i]=true then[⟨2,is[i].path⟩]else[]:=fun i h=>by
  simp only[E2];rw[zAk h,zAY,zA9,zAr];congr 2;by_cases hg:aEb was is[i]=true
  ·simp[hg]
  ·simp[hg]
 have hE20:E2 0=E 0:=by simp[E2]
 refine gB (ι:=AHeap) (fun _=>[(7,.sl false (was.map itA)),(8,.sl false (is.map itA)),(9,.ref H.length 0 0),(10,.ref (H.length+2) 0 0),(11,.ref (H.length+4) 0 0)]) (fun G=>G) (fun G=>DB 177 H (E2 is.length) was G) ?_ fun G5 hD5=>?_
 ·refine aI (ι:=Nat×AHeap) (fun s=>[(7,.sl false (was.map itA)),(8,.sl false (is.map itA)),(9,.ref H.length 0 0),(10,.ref (H.length+2) 0 0),(11,.ref (H.length+4) 0 0),(83,.sl false (is.map itA)),(84,.int .i64 is.length),(85,.int .i64 s.1)]) (fun s=>s.2) (fun s=>s.1≤is.length∧DB 177 H (E2 s.1) was s.2) (fun s=>is.length-s.1) (0,_) ⟨zAo _,by rw[hE20];exact hD4⟩ ?_ rfl ?_
  ·simp[go_sem]
  rintro⟨i,G⟩ ⟨hi,hD⟩;simp only at hi hD ⊢;by_cases hin:i<is.length
  ·obtain⟨es,cl,e1,he⟩:=hD.m;have r3:=aG e1 trivial;have r4:=aG hD.mc trivial;have rc:=aG hD.c trivial;have k1:keysIn .string es=True:=zAC he.ki;have hgd:=aW8 hin;have hsz:=hE2l i;have hstp:=hE2s i hin;have hms:is.length-(i+1)<is.length-i:=by omega
   cases hk:lookI is[i].path was with
   |none=>
    have hkn:=he.no hk;have hg:aEb was is[i]=true:=by unfold aEb;rw[hk]
    rw[zAl hg]at hstp;repeat' first|(refine gS ?_;simp only[go_sem,hin,hgd,hkn,k1,r3,r4,rc,itA])|refine gA ?_|(refine gD ?_ ?_<;>intro h<;>try exact aA h)|fail
    refine gR (aX1 2 is[i].path (E2 i) H.length (by omega) _ (hD.e.app _)) (cO) ?_
    rintro v H' ⟨rfl,rfl⟩;simp only[go_sem];repeat' first|(refine gS ?_;simp only[go_sem])|refine gA ?_|(refine gD ?_ ?_<;>intro h<;>try exact aA h)|fail
    exact⟨(i+1,_),⟨hin,by rw[hstp];exact(hD.app _).ev _⟩,hms,zAx _ (aS hin (by omega)),rfl⟩
   |some x=>
    obtain⟨j,hkn⟩:=he.yes hk;by_cases hx:x.id=is[i].id
    ·have hg:aEb was is[i]=false:=by unfold aEb;rw[hk];simp[hx]
     rw[zAe (by rw[hg];simp),zAd]at hstp
     repeat' first|(refine gS ?_;simp only[go_sem,hin,hgd,hkn,k1,r3,r4,rc,itA,hx])|refine gA ?_|(refine gD ?_ ?_<;>intro h<;>try exact aA h)|fail
     exact⟨(i+1,_),⟨hin,by rw[hstp];exact hD.app _⟩,hms,zAx _ (aS hin (by omega)),rfl⟩
    ·have hg:aEb was is[i]=true:=by unfold aEb;rw[hk];simp[hx]
     rw[zAl hg]at hstp;repeat' first|(refine gS ?_;simp only[go_sem,hin,hgd,hkn,k1,r3,r4,rc,itA,hx])|refine gA ?_|(refine gD ?_ ?_<;>intro h<;>try exact aA h)|fail
     refine gR (aX1 2 is[i].path (E2 i) H.length (by omega) _ (hD.e.app _)) (cO) ?_
     rintro v H' ⟨rfl,rfl⟩;simp only[go_sem];repeat' first|(refine gS ?_;simp only[go_sem])|refine gA ?_|(refine gD ?_ ?_<;>intro h<;>try exact aA h)|fail
     exact⟨(i+1,_),⟨hin,by rw[hstp];exact(hD.app _).ev _⟩,hms,zAx _ (aS hin (by omega)),rfl⟩
  ·have hie:i=is.length:=by omega
   rw[hie]at hD;repeat' first|(refine gS ?_;simp only[go_sem,hin])|refine gA ?_|(refine gD ?_ ?_<;>intro h<;>try exact aA h)|fail
   exact⟨G,hD,rfl⟩
 repeat' first|(refine gS ?_;simp only[go_sem])|refine gA ?_|(refine gD ?_ ?_<;>intro h<;>try exact aA h)|fail
 -- what was written
 let E3:Nat→List Evt:=fun k=>E2 is.length++((is.take k).filter (aKH was)).map fun t=>⟨3,t.path⟩
 have hE3l:∀k,(E3 k).length≤was.length+2 * is.length:=fun k=>by
  have h1:=zA2 (aKH was) (is.take k);have h2:=hE2l is.length;have h3:(E3 k).length=(E2 is.length).length+((is.take k).filter (aKH was)).length:=by simp only[E3,zAa,zAn]
  rw[zAL]at h1;omega
 have hE3s:∀i (h:i<is.length),E3 (i+1)=E3 i++if aKH was is[i]=true then[⟨3,is[i].path⟩]else[]:=fun i h=>by
  show E2 is.length++(((is.take (i+1)).filter (aKH was)).map fun t=>(⟨3,t.path⟩:Evt))=(E2 is.length++((is.take i).filter (aKH was)).map fun t=>(⟨3,t.path⟩:Evt))++_
  generalize E2 is.length=z;rw[zAk h,zAY,zA9,←zAr];congr 1;by_cases hg:aKH was is[i]=true
  ·simp[hg]
  ·simp[hg]
 have hE30:E3 0=E2 is.length:=by simp[E3]
 refine gB (ι:=AHeap) (fun _=>[(7,.sl false (was.map itA)),(8,.sl false (is.map itA)),(9,.ref H.length 0 0),(10,.ref (H.length+2) 0 0),(11,.ref (H.length+4) 0 0)]) (fun G=>G) (fun G=>DB 177 H (E3 is.length) was G) ?_ fun G6 hD6=>?_
 ·refine aI (ι:=Nat×AHeap) (fun s=>[(7,.sl false (was.map itA)),(8,.sl false (is.map itA)),(9,.ref H.length 0 0),(10,.ref (H.length+2) 0 0),(11,.ref (H.length+4) 0 0),(110,.sl false (is.map itA)),(111,.int .i64 is.length),(112,.int .i64 s.1)]) (fun s=>s.2) (fun s=>s.1≤is.length∧DB 177 H (E3 s.1) was s.2) (fun s=>is.length-s.1) (0,_) ⟨zAo _,by rw[hE30];exact hD5⟩ ?_ rfl ?_
  ·simp[go_sem]
  rintro⟨i,G⟩ ⟨hi,hD⟩;simp only at hi hD ⊢;by_cases hin:i<is.length
  ·obtain⟨es,cl,e1,he⟩:=hD.m;have r3:=aG e1 trivial;have r4:=aG hD.mc trivial;have rc:=aG hD.c trivial;have k1:keysIn .string es=True:=zAC he.ki;have hgd:=aW8 hin;have hsz:=hE3l i;have hstp:=hE3s i hin;have hms:is.length-(i+1)<is.length-i:=by omega
   cases hk:lookI is[i].path was with
   |none=>
    have hkn:=he.no hk;have hg:aKH was is[i]=false:=by unfold aKH;rw[hk]
    rw[zAe (by rw[hg];simp),zAd]at hstp
    repeat' first|(refine gS ?_;simp only[go_sem,hin,hgd,hkn,k1,r3,r4,rc,itA])|refine gA ?_|(refine gD ?_ ?_<;>intro h<;>try exact aA h)|fail
    exact⟨(i+1,_),⟨hin,by rw[hstp];exact hD.app _⟩,hms,zAx _ (aS hin (by omega)),rfl⟩
   |some x=>
    obtain⟨j,hkn⟩:=he.yes hk;by_cases hx:x.id=is[i].id
    ·by_cases hy:x.data=is[i].data
     ·have hg:aKH was is[i]=false:=by unfold aKH;rw[hk];simp[hx,hy]
      rw[zAe (by rw[hg];simp),zAd]at hstp
      repeat' first|(refine gS ?_;simp only[go_sem,hin,hgd,hkn,k1,r3,r4,rc,itA,hx,hy])|refine gA ?_|(refine gD ?_ ?_<;>intro h<;>try exact aA h)|fail
      exact⟨(i+1,_),⟨hin,by rw[hstp];exact hD.app _⟩,hms,zAx _ (aS hin (by omega)),rfl⟩
     ·have hg:aKH was is[i]=true:=by unfold aKH;rw[hk];simp[hx,hy]
      rw[zAl hg]at hstp;repeat' first|(refine gS ?_;simp only[go_sem,hin,hgd,hkn,k1,r3,r4,rc,itA,hx,hy])|refine gA ?_|(refine gD ?_ ?_<;>intro h<;>try exact aA h)|fail
      refine gR (aX1 3 is[i].path (E3 i) H.length (by omega) _ (hD.e.app _)) (cO) ?_
      rintro v H' ⟨rfl,rfl⟩;simp only[go_sem];repeat' first|(refine gS ?_;simp only[go_sem])|refine gA ?_|(refine gD ?_ ?_<;>intro h<;>try exact aA h)|fail
      exact⟨(i+1,_),⟨hin,by rw[hstp];exact(hD.app _).ev _⟩,hms,zAx _ (aS hin (by omega)),rfl⟩
    ·have hg:aKH was is[i]=false:=by unfold aKH;rw[hk];simp[hx]
     rw[zAe (by rw[hg];simp),zAd]at hstp
     repeat' first|(refine gS ?_;simp only[go_sem,hin,hgd,hkn,k1,r3,r4,rc,itA,hx])|refine gA ?_|(refine gD ?_ ?_<;>intro h<;>try exact aA h)|fail
     exact⟨(i+1,_),⟨hin,by rw[hstp];exact hD.app _⟩,hms,zAx _ (aS hin (by omega)),rfl⟩
  ·have hie:i=is.length:=by omega
   rw[hie]at hD;repeat' first|(refine gS ?_;simp only[go_sem,hin])|refine gA ?_|(refine gD ?_ ?_<;>intro h<;>try exact aA h)|fail
   exact⟨G,hD,rfl⟩
 have b0:=hD6.e.b0;have b1:=hD6.e.b1;repeat' first|(refine gS ?_;simp only[go_sem,b0])|refine gA ?_|(refine gD ?_ ?_<;>intro h<;>try exact aA h)|fail
 obtain⟨L,hL⟩:=hD6.pre;have hfin:E3 is.length=aCj was is:=by
  simp only[E3,E2,E,zAD,List.drop_zero];rfl
 rw[hL]at b1 ⊢;rw[hfin]at b1 ⊢;exact iU (cs:=evC (aCj was is)) (es:=(aCj was is).map fF) (rest:=[]) (by omega) b1 (by rw[zAd];rfl) (by simp) (fun e he=>by obtain⟨x,_,rfl⟩:=zAm.1 he;rfl) (fun e he=>by obtain⟨x,_,rfl⟩:=zAm.1 he;exact(by simp only[go_sem])) rfl
end
end Go.Proofs.YtennnelammaapaaGreatDoor
