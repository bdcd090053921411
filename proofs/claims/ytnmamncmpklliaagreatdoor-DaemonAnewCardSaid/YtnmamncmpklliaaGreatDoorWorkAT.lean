/- What the functions of this seat answer (20 of 53). No condition. -/
import Derived.Test.YtnmamncmpklliaaGreatDoorWorkAQ
import Derived.Test.YtnmamncmpklliaaGreatDoorWorkAS
set_option linter.unusedSimpArgs false
set_option linter.unusedVariables false
set_option linter.unusedSectionVars false
set_option maxRecDepth 100000
set_option maxHeartbeats 16000000
namespace Go.Proofs.YtnmamncmpklliaaGreatDoor
variable{H:ab}{i N:Nat}{ops:Array Oper}{α:a7}{Q:cX}{P:Program}
def aCE(j k:Nat)(t:ag)(R:List I):List I:=.osl 1 j (k+1) 0 t.length t.length::R
structure DJ (i j k:Nat) (t:ag) (R:List I) (G:ab):Prop where
 ne:i<j
 aO:ay G i=.cells 0 (aCE j k t R)
 bo:ay G j=.cells (k+1) (ch t)
def NC(G:ab)(i j k:Nat)(t:ag)(R:List I):ab:=ar (ar G j (.cells (k+1) (ch t))) i<|.cells 0 (aCE j k t R)
section
variable {i j k:Nat} {t:ag} {R:List I} {G:ab} (h:DJ i j k t R G)
include h
theorem DJ.ey:i<G.length:=dk h.aO trivial
theorem DJ.fq:j<G.length:=dk h.bo trivial
theorem DJ.own:NC G i j k t R=G:=by unfold NC;rw[lr h.bo trivial,lr h.aO trivial]
theorem DJ.put(k':Nat)(t':ag)(R':List I):DJ i j k' t' R' (NC G i j k' t' R'):=by
 have J:¬j=i:=by have:=h.ne;omega
 refine⟨h.ne,dR (by rw[bc];exact h.ey) _,?_⟩
 unfold NC;rw[ub _ _ _ J];exact dR (by rw[bc];exact h.fq) _
end
def aWx(l:List Int):ag:=l.flatMap λn=>ct n.toNat
theorem Yz(n v:Nat)(t:ag):ep n (.cells v<|ch t):=λx J=>by
 obtain⟨b, -,rfl⟩:=bJ.1 J;exact .int _ _
theorem oQ{n:Nat}(h:n<=9223372036854775807):(ct n).length<=9:=I4 n h
structure aSn (o:Ord):Prop where
 path:o.call.path.length<=1048576
 to:o.call.to.length<=1048576
 data:o.call.data.length<=1048576
 n:o.call.n<=9223372036854775807
 pick:o.pick<=9223372036854775807
 cz:o.cz.length<=1048576
theorem y5{t:ag}(h:t.length<=9223372036854775807):(gF t).length<=9+t.length:=by
 have:=oQ h;unfold gF;rw[bF];omega
def aE1:List cu:=[.free,.free,.pure 0,.pure 0,.pure 0,.free,.pure 0,.eff [false,false,true,true],.pure 0,.pure 0,.eff [false,true,false,false]]
attribute [go_sem] aE1
theorem aDJ{c:Ctx}{t:TypeId}(U:bp c H)(O:ay H i=.cells 1 [])(hs:(eM P t).known=true):mj P (Instr.alloc t true<|.tuple #[]) c (.ref i 2 0) (ar H i<|.cells 2 (eM P t).cells):=by
 obtain⟨z,h1,h2⟩:=uG hs c;obtain⟨aP,I⟩:=h2.cells hs;have V:=U.qN O;have Z:=kG O trivial;have hi:i<c.n:=by rw[U.n];exact dk O trivial
 have J:=U.Ex Z trivial iV (c.w.alloc<|.cells z.cells t) c.w.heap.size kk (.inl<|bd _) (λb T _=>uA T) rfl rfl rfl
 obtain⟨-,gj⟩:=U.bump (B':=.cells 2 (eM P t).cells) Z trivial iV (c.w.alloc<|.cells z.cells t) c.w.heap.size kk kk (.inl<|bd _) (λb T _=>uA T) rfl rfl rfl
  (.cells _ _ z.cells t (0,0) (by simp[Ctx.bump,V]) (by simp[Ctx.bump]) (by grind [Ctx.bump,mo]) iV (.inr<|bd _) λj y u p q=>(I j y u p q).mono J)
 refine⟨c.bump i _ _,.pointer<|some ⟨c.w.heap.size,0,none⟩,?_,gj,J,.ref _ _ _ _ hi (by simp[Ctx.bump,V]) rfl λ_=>by simp[Ctx.bump]⟩
 simp[Instr.alloc,h1,newVar,newRow,Ctx.bump]
theorem Kr{dst:Option Tmp}{t ty:TypeId}{pos:String}{after:Array Edge}(J:ay H i=.cells 1 [])(hs:(eM P t).known=true):
  fS P N ops ⟨dst,.alloc t,ty,pos,after,none⟩ α (.ref i 2 0) H (ar H i<|.cells 2 (eM P t).cells):=
 dQ.ot rfl (jx λc a U _=>by
  obtain⟨c',v,h1,h2,h3,h4⟩:=aDJ U J hs;exact⟨c',v,by simp only[execOp,Sem.run_bind,h1];rfl,h2,h3,h4⟩)
theorem W9{code:Code}(h:cI P N code Q α (H++[.cells 1 []])):cI P N code Q α H:=by
 intro r c a O T J;have U:=Ext.void c;exact wpIn_mono (h r c.void a O T.void ⟨J.size,J.defers.mono U,λu=>(J.rep u).mono U⟩) λ_ _ _ ⟨c',V,H',av,al,Z,I,z⟩=>⟨c',V,H',av,al,U.trans Z,I,z⟩
def GS:List Oper->List cu->Bool
 |[],[]=>true
 |o::os,.free::ps=>zb o.op&&GS os ps
 |_::os,.eff []::ps=>GS os ps
 |_,_=>false
def DU(ops:Array Oper)(fM:List Nat):List Oper->List cu->Nat->Bool
 |[],[],_=>true
 |o::os,.free::ps,k=>zb o.op&&DU ops fM os ps (k+1)
 |_::os,.pure w::ps,k=>(w==3)&&ri ops (k::fM)&&DU ops fM os ps (k+1)
 |_,_,_=>false
def MK:Nat->Nat->Array Bool->Array Bool
 |0,_,l=>l
 |j+1,k,l=>MK j (k+1)<|l.setIfInBounds k true
section
variable {N:Nat} {ops:Array Oper} {eff:Nat->Bool} {K:a7->ab->Prop}
theorem OR:∀(os:List Oper) (pl:List cu) (k:Nat) (α:a7) (H:ab) (O:List ab) (sp:hZ) (V:tR) (T:hZ),GS os pl=true->(∀i,k<=i->(eff i=true↔i∈mn pl k))->
  (∀p∈T,(∀h,p.2 h)\/∀i∈mn pl k,rL ops p.1 i)->e0 P ops.toList pl os k α H O sp K->Hf P N ops eff K os k α H V T
 |[],[],_,_,_,_,_,_,_,_,_,_,h=>h
 |o::os,.free::pl,k,α,H,O,sp,V,T,ad,he,J,h=>by
  rw[GS,cV]at ad;obtain⟨v,h1,h2⟩:=h;have Z:eff k=false:=by
   rw[<-x2,he k<|bd _];intro hm;have:=CK pl (k+1) k hm;omega
  refine⟨v,H,⟨h1.fS,λq=>Bool.noConfusion<|Z.symm.trans q,λ_=>⟨rfl,λe _ _=>(IN ad.1 h1).fS⟩⟩,?_⟩
  simp only[Z,gz];refine OR os pl (k+1) _ H O sp _ _ ad.2 (λi hi=>he i iV) ?_ h2
  intro p U;cases U with
  |head=>exact .inl λh=>(IN ad.1 h1).fS
  |tail _ U=>exact J p U
 |o::os,.eff []::pl,k,α,H,O,sp,V,T,ad,he,J,h=>by
  obtain⟨v,H1,h1,h2,h3⟩:=h;have I:eff k=true:=by rw[he k (bd _)];exact .head _
  refine⟨v,H1,⟨WD h1,λ_ p U z=>?_,λq=>Bool.noConfusion<|I.symm.trans q⟩,?_⟩
  ·rcases J p U with q|q
   ·exact q _
   ·exact absurd (q k<|.head _) z
  ·simp only[I,dG];refine OR os pl (k+1) _ _ _ _ _ _ ad (λi hi=>?_) (λp U=>?_) h3
   ·rw[he i iV]
    constructor
    ·intro hm;cases hm with
     |head=>omega
     |tail _ hm=>exact hm
    ·exact .tail _
   ·rcases J p U with q|q
    ·exact .inl q
    ·exact .inr λi hi=>q i<|.tail _ hi
theorem U1(bP:∀α β H,Alike α β->K α H->K β H)(T:Nat)(V:∀i j,T<=i->eff i=true->eff j=true->j≠i->∀listed,nq ops listed->i∈Region.ready .any ops listed->j∈Region.ready .any ops listed->False):
  ∀(l:List Oper) (k:Nat) (listed:Array Bool) (α:a7) (H:ab) (J:tR) (U:hZ),T<=k->(∀j,l[j]?=ops[k+j]?)->nq ops listed->
  Region.lexFrom .any ops l.length k listed=true->Hf P N ops eff K l k α H J U->tw P N ops eff K l.length listed α H J U
 |[],_,_,_,_,_,_,_,_,_,O,h=>⟨by simpa[Region.lexFrom]using O,h⟩
 |o::l,k,listed,α,H,J,U,z,hl,Z,O,h=>by
  have aw:=by simpa using(hl 0).symm
  simp[Region.lexFrom]at O;obtain⟨⟨az,ax⟩,vr⟩:=O;obtain⟨v,H1,aH,hk⟩:=h;have I:=by simpa using az
  exact MX bP aw (λhe j aq aN=>V k j z he aq aN) l.length listed α H H1 J U Z (Region.free_spec aw ax) I aH
   (U1 bP T V l (k+1) _ _ _ _ _ iV (λj=>by have:=hl<|j+1;grind) (Z.set I) vr hk)
def P4(ops:Array Oper)(fM:List Nat)(A B C:ab)(lg:hZ):Prop:=∀p∈lg,(∀h,p.2 h)\/(p.2 A/\p.2 B/\p.2 C/\∀i∈fM,rL ops p.1 i)
theorem OA(bP:∀α β H,Alike α β->K α H->K β H)(Z:List Nat)(A B C:ab)(m n:Nat)(ef:a7->ab->Prop):
  ∀(os:List Oper) (pl:List cu) (k:Nat) (listed:Array Bool) (α:a7) (H:ab) (sp J:hZ),k+os.length=n->(∀i,i<n->eff i=false)->(∀j,j<os.length->os[j]?=ops[k+j]?)->nq ops listed->
  DU ops Z os pl k=true->Region.lexFrom .any ops (os.length+m) k listed=true->P4 ops Z A B C J->
  (∀(Dy:a7) (uT:hZ) (MJ:Array Bool),MJ=MK os.length k listed->nq ops MJ->Region.lexFrom .any ops m n MJ=true->P4 ops Z A B C uT->ef Dy H->tw P N ops eff K m MJ Dy H [] uT)->
  e0 P ops.toList pl os k α H [A,B,C] sp ef->tw P N ops eff K (os.length+m) listed α H [] J
 |[],[],k,listed,α,H,sp,J,af,_,_,O,_,U,I,hk,h=>by
  simp only[eg,j9,rJ]at U af ⊢;subst af;exact hk α J listed rfl O U I h
 |o::os,.free::pl,k,listed,α,H,sp,J,af,he,hl,O,ad,U,I,hk,h=>by
  rw[DU,cV]at ad;obtain⟨v,h1,h2⟩:=h;have T:=he k (by simp at af;omega)
  have aw:=by simpa using(hl 0 kk).symm
  simp only[cg,Nat.succ_add,Region.lexFrom,cV]at U ⊢;obtain⟨⟨az,ax⟩,vr⟩:=U;have z:=by simpa using az
  refine MX bP aw (λq=>Bool.noConfusion<|T.symm.trans q) (os.length+m) listed α H H [] J O (Region.free_spec aw ax) z
   ⟨h1.fS,λq=>Bool.noConfusion<|T.symm.trans q,λ_=>⟨rfl,λe he _=>by cases he⟩⟩ ?_
  simp only[T,mE,gz];refine OA bP Z A B C m n ef os pl (k+1) _ _ H sp _ (by simp at af;omega) he (λj aq=>by have:=hl (j+1) nX;grind) (O.set z) ad.2 vr ?_ hk h2
  intro p V;cases V with
  |head=>exact .inl λh=>(IN ad.1 h1).fS
  |tail _ V=>exact I p V
 |o::os,.pure w::pl,k,listed,α,H,sp,J,af,he,hl,O,ad,U,I,hk,h=>by
  simp only[DU,cV,rK]at ad;obtain⟨⟨rfl,iW⟩,ad⟩:=ad;obtain⟨v,h1,h2,h3⟩:=h;have T:=he k (by simp at af;omega)
  have aw:=by simpa using(hl 0 kk).symm
  simp only[cg,Nat.succ_add,Region.lexFrom,cV]at U ⊢;obtain⟨⟨az,ax⟩,vr⟩:=U;have z:=by simpa using az
  refine MX bP aw (λq=>Bool.noConfusion<|T.symm.trans q) (os.length+m) listed α H H [] J O (Region.free_spec aw ax) z
   ⟨h1.fS,λq=>Bool.noConfusion<|T.symm.trans q,λ_=>⟨rfl,λe he _=>by cases he⟩⟩ ?_
  simp only[T,mE,gz];refine OA bP Z A B C m n ef os pl (k+1) _ _ H _ _ (by simp at af;omega) he (λj aq=>by have:=hl (j+1) nX;simpa[tC,Nat.add_comm 1 j]using this) (O.set z) ad vr ?_ hk h3
  intro p V;cases V with
  |head=>
   obtain⟨c3,a2,a3, -⟩:=h2;exact .inr ⟨c3.fS,a2.fS,a3.fS,λi hi=>(Fv iW i hi).1⟩
  |tail _ V=>exact I p V
end
def YA(ops:Array Oper)(n:Nat)(t1 t2:TypeId)(d1 d2:Tmp):Bool:=
 match ops[n]?,ops[n+1]? with
 |some ⟨some a,.alloc s,_,_,_,none⟩,some ⟨some b,.alloc u,_,_,_,none⟩=>(a==d1)&&(b==d2)&&(s==t1)&&(u==t2)&& !(a==b)
 |_,_=>false
def YB(ops:Array Oper)(n:Nat)(l:Array Bool):Bool:=
 (Region.ready .any ops l==[n,n+1])&&(Region.ready .any ops (l.setIfInBounds n true)==[n+1])&&(Region.ready .any ops (l.setIfInBounds (n+1) true)==[n])
def XV(ops:Array Oper)(Jb pa:List cu)(n:Nat)(t1 t2:TypeId)(d1 d2:Tmp):Bool:=
 YA ops n t1 t2 d1 d2&&YB ops n (MK n 0<|Array.replicate ops.size false)&&Nat.ble (n+2) ops.size&&
  DU ops (mn pa<|n+2) (ops.toList.take n) Jb 0&&GS (ops.toList.drop<|n+2) pa&&ri ops (n::mn pa (n+2))&&ri ops ((n+1)::mn pa (n+2))
def PB(P:Program)(all:List Oper)(pa:List cu)(rest:List Oper)(n:Nat)(d1 d2:Tmp)(v1 v2:I)(G:ab)(ef:a7->ab->Prop):a7->ab->Prop:=
 λα _=>e0 P all pa rest (n+2) ((d2,v2)::(d1,v1)::α) G [] [] ef
@[go_sem] theorem aV8(all)(J)(rest)(n)(d1 d2)(v1 v2)(G)(U)(α)(H):
  PB P all J rest n d1 d2 v1 v2 G U α H=e0 P all J rest (n+2) ((d2,v2)::(d1,v1)::α) G [] [] U:=rfl
theorem MG{id:Nat}(Jb I:List cu)(n:Nat)(t1 t2:TypeId)(d1 d2:Tmp)(hm:P.follows .mixedOrders=true)(hd:za N ops=true)(bX:Region.lexB .any ops=true)
  (ad:XV ops Jb I n t1 t2 d1 d2=true) (gu:(eM P t1).known=true) (gl:(eM P t2).known=true)
  (h:e0 P ops.toList Jb (ops.toList.take n) 0 α (H++[.cells 1 [],.cells 1 []])
   [H++[.cells 2 (eM P t1).cells,.cells 1 []],H++[.cells 1 [],.cells 2 (eM P t2).cells],H++[.cells 2 (eM P t1).cells,.cells 2 (eM P t2).cells]] []
   (PB P ops.toList I (ops.toList.drop<|n+2) n d1 d2 (.ref H.length 2 0) (.ref (H.length+1) 2 0) (H++[.cells 2 (eM P t1).cells,.cells 2 (eM P t2).cells]) (λz H'=>Q .normal z H'))):cI P N (.region id ops true) Q α H:=by
 refine W9<|W9 ?_;rw[dr,J1];intro r c a _ hs aF;simp only[Region.lexB,cV]at bX;simp only[XV,cV,Nat.ble_eq]at ad;obtain⟨⟨⟨⟨⟨⟨hO,jh⟩,af⟩,bZ⟩,h0⟩,jY⟩,rZ⟩:=ad;obtain⟨T,eI⟩:∃G,H++[.cells 2 (eM P t1).cells,.cells 1 []]=G:=⟨_,rfl⟩;obtain⟨V,gg⟩:∃G,H++[.cells 1 [],.cells 2 (eM P t2).cells]=G:=⟨_,rfl⟩;obtain⟨U,lC⟩:∃G,H++[.cells 2 (eM P t1).cells,.cells 2 (eM P t2).cells]=G:=⟨_,rfl⟩;obtain⟨O,EL⟩:∃G,H++[.cells 1 [],.cells 1 []]=G:=⟨_,rfl⟩;rw[EL]at hs;rw[EL,eI,gg,lC]at h;have C9:ay O H.length=.cells 1 []:=by rw[<-EL];simp[ay]
 have rD:ay O (H.length+1)=.cells 1 []:=by rw[<-EL];simp[ay]
 have Da:ay T (H.length+1)=.cells 1 []:=by rw[<-eI];simp[ay]
 have aRV:ay V H.length=.cells 1 []:=by rw[<-gg];simp[ay]
 have s1:ar O H.length (.cells 2 (eM P t1).cells)=T:=by rw[<-EL,<-eI];simp[ar]
 have s2:ar O (H.length+1) (.cells 2 (eM P t2).cells)=V:=by rw[<-EL,<-gg];simp[ar]
 have ld:ar T (H.length+1) (.cells 2 (eM P t2).cells)=U:=by rw[<-eI,<-lC];simp[ar]
 have FQ:ar V H.length (.cells 2 (eM P t1).cells)=U:=by rw[<-gg,<-lC];simp[ar]
 refine wpIn_region_any hm ?_;obtain⟨fM,Ra⟩:∃fM,fM=mn I (n+2):=⟨_,rfl⟩;have aXE:∀i∈fM,n+2<=i:=λi hi=>CK I (n+2) i<|Ra▸hi
 obtain⟨eff,Au⟩:∃eff:Nat->Bool,eff=λi=>(i==n)||(i==n+1)||fM.contains i:=⟨_,rfl⟩
 have Zx:eff n=true:=by rw[Au];simp
 have Zy:eff (n+1)=true:=by rw[Au];simp
 have Qv:∀i,n+2<=i->(eff i=true↔i∈mn I (n+2)):=λi hi=>by
  grind
 have Zw:∀i,i<n->eff i=false:=λi hi=>by
  rw[Au];grind
 let K:a7->ab->Prop:=λz H'=>∃β,Alike z β/\Q .normal β H'
 have bP:∀α β H,Alike α β->K α H->K β H:=λα β H dc ⟨Gr,aL,aJ⟩=>⟨Gr,λt=>(dc t).symm.trans<|aL t,aJ⟩
 have vv:∀i j,n+2<=i->eff i=true->eff j=true->j≠i->∀listed,nq ops listed->i∈Region.ready .any ops listed->j∈Region.ready .any ops listed->False:=by
  intro i j hi qf Cj aN listed au h1 h2;have Rl:i∈mn I (n+2):=(Qv i hi).1 qf;rcases Bk j n with J|J
  ·rw[Zw j J]at Cj;cases Cj
  ·rcases Bk j (n+2)with H7|H7
   ·have aOR:j=n\/j=n+1:=iV
    rcases aOR with e|e
    ·subst e;exact CY au h2 h1 (Fv jY i Rl).1
    ·subst e;exact CY au h2 h1 (Fv rZ i Rl).1
   ·rcases Ol (Uy jY) i j Rl ((Qv j H7).1 Cj) aN with q|q
    ·exact CY au h1 h2 q
    ·exact CY au h2 h1 q
 obtain⟨jO,aP,f1,z2,aR,f2,aAM,yS,dc⟩:∃(jO:TypeId) (aP:String) (f1:Array Edge) (z2:TypeId) (aR:String) (f2:Array Edge) (_:ops[n]?=some ⟨some d1,.alloc t1,jO,aP,f1,none⟩) (_:ops[n+1]?=some ⟨some d2,.alloc t2,z2,aR,f2,none⟩),d1≠d2:=by
  unfold YA at hO;split at hO
  ·rename_i a s jO aP f1 b u z2 aR f2 av al;simp only[cV,rK,sB,beq_eq_false_iff_ne]at hO;obtain⟨⟨⟨⟨rfl,rfl⟩,rfl⟩,rfl⟩,aN⟩:=hO;exact⟨jO,aP,f1,z2,aR,f2,av,al,aN⟩
  ·cases hO
 have yG:nq ops (Array.replicate ops.size false):=by
  intro q o aJ;rw[JZ]at aJ;by_cases ak:q<ops.size<;>simp[ak]at aJ
 obtain⟨rest,E7⟩:∃rest,rest=ops.toList.drop (n+2):=⟨_,rfl⟩;have pG:rest.length=ops.size-(n+2):=by rw[E7,fT,Array.length_toList]
 have hlen:(ops.toList.take n).length=n:=by rw[eK,Array.length_toList];omega
 rw[<-E7]at h h0;have key:∀(Dy:a7) (Z:hZ) (L:Array Bool),L=MK (ops.toList.take n).length 0 (Array.replicate ops.size false)->nq ops L->Region.lexFrom .any ops (rest.length+2) n L=true->P4 ops fM T V U Z->
   PB P ops.toList I rest n d1 d2 (.ref H.length 2 0) (.ref (H.length+1) 2 0) U (λz H'=>Q .normal z H') Dy O->tw P N ops eff K (rest.length+2) L Dy O [] Z:=by
  intro Dy Z L hp dV um h5 hk;rw[hlen]at hp;simp only[Region.lexFrom,cV]at um;obtain⟨⟨E6, -⟩,⟨pF, -⟩,um⟩:=um;rw[<-hp]at jh;simp only[YB,cV,rK]at jh;obtain⟨⟨NZ,N0⟩,TY⟩:=jh;have aOk:=(dV.set (j:=n) (by rw[NZ];exact .head _)).set (j:=n+1)<|by rw[N0];exact .head _
  have yJ:∀bR,tw P N ops eff K rest.length ((L.setIfInBounds n true).setIfInBounds (n+1) true) (cJ (some d2) (.ref (H.length+1) 2 0)<|cJ (some d1) (.ref H.length 2 0) Dy) U bR Z:=λbR=>
   U1 bP (n+2) vv rest (n+2) _ _ U bR Z (bd _) (λj=>by rw[E7,zm,x1]) aOk um
    (OR rest I (n+2) _ U [] [] bR Z h0 Qv (λp ad=>(h5 p ad).imp (λq=>q) λq=>by rw[<-Ra];exact q.2.2.2)
     (Uq (k':=K) (λz H' aJ=>⟨z,λ_=>rfl,aJ⟩) _ _ _ _ _ _ _ hk))
  have aSa:∀α,fS P N ops ⟨some d1,.alloc t1,jO,aP,f1,none⟩ α (.ref H.length 2 0) O T:=λα=>by rw[<-s1];exact Kr C9 gu
  have aSb:∀α,fS P N ops ⟨some d2,.alloc t2,z2,aR,f2,none⟩ α (.ref (H.length+1) 2 0) O V:=λα=>by rw[<-s2];exact Kr rD gl
  have aSc:∀α,fS P N ops ⟨some d2,.alloc t2,z2,aR,f2,none⟩ α (.ref (H.length+1) 2 0) T U:=λα=>by rw[<-ld];exact Kr Da gl
  have aSd:∀α,fS P N ops ⟨some d1,.alloc t1,jO,aP,f1,none⟩ α (.ref H.length 2 0) V U:=λα=>by rw[<-FQ];exact Kr aRV gu
  have Sw:∀p∈Z,p.2 T:=λp ad=>(h5 p ad).elim (λq=>q _) λq=>q.1
  have aQ1:∀p∈Z,p.2 V:=λp ad=>(h5 p ad).elim (λq=>q _) λq=>q.2.1
  have aBP:∀p∈Z,p.2 U:=λp ad=>(h5 p ad).elim (λq=>q _) λq=>q.2.2.1
  refine⟨λaw=>(by rw[NZ]at aw;cases aw),λi hi=>?_⟩
  rw[NZ]at hi;cases hi with
  |head=>
   unfold tn;simp only[aAM,Zx,dG];refine⟨_,T,aSa _,λp ad _=>Sw p ad,⟨λaw=>(by rw[N0]at aw;cases aw),λj J=>?_⟩⟩
   rw[N0]at J;cases J with
   |head=>
    unfold tn;simp only[yS,Zy,dG];exact⟨_,U,aSc _,λp ad _=>aBP p ad,yJ _⟩
   |tail _ J=>cases J
  |tail _ hi=>
   cases hi with
   |head=>
    unfold tn;simp only[yS,Zy,dG];refine⟨_,V,aSb _,λp ad _=>aQ1 p ad,⟨λaw=>(by rw[TY]at aw;cases aw),λj J=>?_⟩⟩
    rw[TY]at J;cases J with
    |head=>
     unfold tn;simp only[aAM,Zx,dG];refine⟨_,U,aSd _,λp ad _=>aBP p ad,?_⟩
     rw[J0 _ _ iV]
     exact CO bP _ _ _ _ _ _ _ _ (HE λd hd he=>by cases hd;cases he;exact dc rfl) (.refl _)<|yJ _
    |tail _ J=>cases J
   |tail _ hi=>cases hi
 have hsz:(ops.toList.take n).length+(rest.length+2)=ops.size:=by rw[hlen,pG];omega
 have h3:=OA (N:=N) (ops:=ops) (eff:=eff) bP fM T V U (rest.length+2) n _ (ops.toList.take n) Jb 0 (Array.replicate ops.size false) α O [] [] (by rw[hlen];omega) Zw
  (λj J=>by rw[hlen]at J;rw[List.getElem?_take_of_lt J,x1,j9]) yG (by rw[Ra];exact bZ) (by rw[hsz];exact bX.2) (λp ad=>by cases ad) key h
 have h4:=MH (r:=r) (P:=P) (Q:=wS N c Q) hd c (λz H' c' gM ⟨β,dc,aJ⟩ gj fP s5=>⟨c',β,H',rfl,gj,fP,s5.weaken λt=>.inr (dc t).symm,aJ⟩)
  _ (Array.replicate ops.size false) α O _ _ c.draw a hs.draw (Ext.draw c) (aF.mono<|Ext.draw c) h3
 rw[hsz]at h4;exact h4
end Go.Proofs.YtnmamncmpklliaaGreatDoor
