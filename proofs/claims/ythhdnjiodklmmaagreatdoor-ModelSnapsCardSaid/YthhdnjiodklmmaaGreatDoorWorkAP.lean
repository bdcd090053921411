/- The texts 16 of 51 beneath the rows of this seat (joined by program): the abstract machine, and what the functions answer. No condition. -/
import Derived.Test.YthhdnjiodklmmaaGreatDoorWorkAK
import Derived.Test.YthhdnjiodklmmaaGreatDoorWorkAM
import Derived.Test.YthhdnjiodklmmaaGreatDoorWorkAN
set_option linter.unusedSimpArgs false
set_option linter.unusedVariables false
set_option linter.unusedSectionVars false
/- What the functions of the logs answer: the step of Add. No condition. -/
namespace Go.Aw
theorem cT(H:AHeap)(i:Nat)(b:ABlk):(aD H i b).length=H.length:=by simp[aD]
theorem bX{H:AHeap}{i j:Nat}(h:i≠j)(b:ABlk):hget (aD H i b) j=hget H j:=by
 simp only[hget,aD,List.getD_eq_getElem?_getD];rw[List.getElem?_set_ne h]
theorem dY{H:AHeap}{i:Nat}(h:i<H.length)(b:ABlk):hget (aD H i b) i=b:=by
 simp only[hget,aD,List.getD_eq_getElem?_getD];rw[List.getElem?_set_self h];rfl
theorem aCm{G L:AHeap}{n k:Nat}(h:G.length=n):hget (G++L) (n+k)=L.getD k .gone:=by subst h;exact pT _ _ _
theorem uQ{G L:AHeap}{n:Nat}(h:G.length=n):hget (G++L) n=L.getD 0 .gone:=by subst h;exact jL _ _
theorem aCn{G L:AHeap}{n k:Nat}(h:G.length=n)(b:ABlk):aD (G++L) (n+k) b=G++L.set k b:=by subst h;exact zR _ _ _ _
theorem aJp{G L:AHeap}{n:Nat}(h:G.length=n)(b:ABlk):aD (G++L) n b=G++L.set 0 b:=by subst h;exact aBr _ _ _
end Go.Aw
namespace Go.Proofs.YthhdnjiodklmmaaGreatDoor
open Go Go.Aw Go.Gw
set_option linter.unusedSimpArgs false
set_option maxRecDepth 20000
set_option maxHeartbeats 1000000
theorem aDp(es:List Ent)(e:Ent):((es++[e]).map fX).flatMap AV.cells=(es.map fX).flatMap AV.cells++(fX e).cells:=by
 rw[List.map_append,List.flatMap_append];simp
theorem aQp(b:Bool)(es:List Ent)(n:List Nd)(o:Opn)(hs:OpS o)(hl:n.length≤1000000000)(he:es.length≤1000000)(H:AHeap)(i j:Nat)(hij:i≠j)
  (hi:hget H i=.cells 0 [.sl b (n.map ndA)]) (hj:hget H j=.cells 0 [.sl true (es.map fX)]):
  ACalls Tryz.prog 159 [opA o,.ref i 0 0,.ref j 0 0] H (fun x H'=>x=.tup []∧
   ∃b0 b1,H'=aD (aD H i (.cells 0 [.sl false ((kY n o).map ndA)])) j (.cells 0 [.osl 17 (H.length+2) 1 0 (es.length+1) (es.length+1)])++([b0,b1,.cells 1 (((es++[(⟨o,uK n o⟩:Ent)]).map fX).flatMap AV.cells)]:AHeap)):=by
 refine dH Tryz.func159 rfl (Nat.le_of_ble_eq_true rfl) ?_
 have hdo:=aUe b n o hs hl
 have hi2:=fun L=>aH hi trivial L
 have hi3:i<H.length:=bI hi trivial
 have hj3:j<H.length:=bI hj trivial
 have f1:=fun L b=>bS hi3 L b
 have f2:=fun b=>cT H i b
 have f3:∀L b k,hget (aD H i b++L) (H.length+k)=L.getD k .gone:=fun L b k=>aCm (cT H i b)
 have f30:∀L b,hget (aD H i b++L) H.length=L.getD 0 .gone:=fun L b=>uQ (cT H i b)
 have f4:∀L b k b',aD (aD H i b++L) (H.length+k) b'=aD H i b++L.set k b':=fun L b k b'=>aCn (cT H i b) b'
 have f5:∀L b,hget (aD H i b++L) j=.cells 0 [.sl true (es.map fX)]:=fun L b=>aH ((bX hij b).trans hj) trivial L
 have f6:∀L b b',aD (aD H i b++L) j b'=aD (aD H i b) j b'++L:=fun L b b'=>bS (by rw[cT];exact hj3) L b'
 have ec:=aDp es ⟨o,uK n o⟩
 have hcl:=iU es
 simp only[opA,unA]at hdo ⊢
 have ct0:=ct hdo aAe;repeat' first|((first|refine gK ?_|refine gS ?_);simp only[go_sem,hi,hj,hi2,f1,f2,f3,f30,f4,f5,f6,hcl])|refine gA ?_|(refine gD (fun h=>?_) (fun h=>?_)<;>try exact aA h)|fail
 rw[ec]
 exact⟨⟨.inr trivial,fun e he=>by rw[he];rfl,by omega⟩,_,_,rfl⟩
theorem aQq(b:Bool)(es:List Ent)(n:List Nd)(o:Opn)(hs:OpS o)(hl:n.length≤1000000000)(he:es.length≤1000000)(H:AHeap)(i j k v:Nat)(hij:i≠j)(hik:i≠k)(hjk:j≠k)(hv:v≠0)
  (hi:hget H i=.cells 0 [.sl b (n.map ndA)]) (hj:hget H j=.cells 0 [.osl 17 k v 0 es.length es.length]) (hk:hget H k=.cells v ((es.map fX).flatMap AV.cells)):
  ACalls Tryz.prog 159 [opA o,.ref i 0 0,.ref j 0 0] H (fun x H'=>x=.tup []∧
   ∃b0 b1,H'=aD (aD (aD H i (.cells 0 [.sl false ((kY n o).map ndA)])) k (.cells (v+1) (((es++[(⟨o,uK n o⟩:Ent)]).map fX).flatMap AV.cells))) j (.cells 0 [.osl 17 k (v+1) 0 (es.length+1) (es.length+1)])++([b0,b1]:AHeap)):=by
 refine dH Tryz.func159 rfl (Nat.le_of_ble_eq_true rfl) ?_
 have hdo:=aUe b n o hs hl
 have hi2:=fun L=>aH hi trivial L
 have hi3:i<H.length:=bI hi trivial
 have hj3:j<H.length:=bI hj trivial
 have hk3:k<H.length:=bI hk trivial
 have f1:=fun L b=>bS hi3 L b
 have f2:=fun b=>cT H i b
 have f3:∀L b k,hget (aD H i b++L) (H.length+k)=L.getD k .gone:=fun L b k=>aCm (cT H i b)
 have f30:∀L b,hget (aD H i b++L) H.length=L.getD 0 .gone:=fun L b=>uQ (cT H i b)
 have f4:∀L b k b',aD (aD H i b++L) (H.length+k) b'=aD H i b++L.set k b':=fun L b k b'=>aCn (cT H i b) b'
 have f5:∀L b,hget (aD H i b++L) j=.cells 0 [.osl 17 k v 0 es.length es.length]:=fun L b=>aH ((bX hij b).trans hj) trivial L
 have f6:∀L b,hget (aD H i b++L) k=.cells v ((es.map fX).flatMap AV.cells):=fun L b=>aH ((bX hik b).trans hk) trivial L
 have f7:∀L b b',aD (aD H i b++L) k b'=aD (aD H i b) k b'++L:=fun L b b'=>bS (by rw[cT];exact hk3) L b'
 have f8:∀L b b' b'',aD (aD (aD H i b) k b'++L) j b''=aD (aD (aD H i b) k b') j b''++L:=fun L b b' b''=>bS (by rw[cT,cT];exact hj3) L b''
 have f9:∀L b b',hget (aD (aD H i b) k b'++L) j=.cells 0 [.osl 17 k v 0 es.length es.length]:=fun L b b'=>aH ((bX hjk.symm b').trans ((bX hij b).trans hj)) trivial L
 have ec:=aDp es ⟨o,uK n o⟩
 have hcl:=iU es
 have hfl:(List.flatMap AV.cells (es.map fX)).length=es.length * 17:=(pV (jC es)).trans (by rw[List.length_map])
 simp only[opA,unA]at hdo ⊢
 have ct0:=ct hdo aAe;repeat' first|((first|refine gK ?_|refine gS ?_);simp only[go_sem,hi,hj,hi2,f1,f2,f3,f30,f4,f5,f6,f7,f8,f9,hcl,hfl,hv])|refine gA ?_|(refine gD (fun h=>?_) (fun h=>?_)<;>try exact aA h)|fail
 rw[ec]
 exact⟨⟨fun e he=>by rw[he];rfl,by omega⟩,_,_,rfl⟩
end Go.Proofs.YthhdnjiodklmmaaGreatDoor
