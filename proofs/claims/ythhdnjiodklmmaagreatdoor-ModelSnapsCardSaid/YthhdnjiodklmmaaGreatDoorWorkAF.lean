/- The texts 6 of 51 beneath the rows of this seat (joined by program): the abstract machine, and what the functions answer. No condition. -/
import Derived.Test.YthhdnjiodklmmaaGreatDoorWorkAE
set_option linter.unusedSimpArgs false
set_option linter.unusedVariables false
set_option linter.unusedSectionVars false
/- The abstract machine: a region in whatever order, in which two allocs stand side by side. No condition. -/
namespace Go.Aw
open Go
set_option linter.unusedVariables false
set_option linter.unusedSimpArgs false
variable {P:Program}
theorem aC9{c:Ctx}{H:AHeap}{t:TypeId}{i:Nat}(hst:St c H)(hh:hget H i=.cells 1 [])(hs:(aZ P t).known=true):Runs P (Instr.alloc t true (.tuple #[])) c (.ref i 2 0) (aD H i (.cells 2 (aZ P t).cells)):=by
 obtain⟨z,h1,h2⟩:=aCT (P:=P) hs c
 obtain⟨q1,q2⟩:=h2.cells hs
 have hv:=hst.ver_eq hh
 have hsome:=dQ hh trivial
 have hi:i<c.n:=by rw[hst.n];exact bI hh trivial
 have hx:=hst.bump_ext hsome trivial (by omega) (c.w.alloc (.cells z.cells t)) c.w.heap.size (by simp) (.inl (Nat.le_refl _)) (fun b hlt _=>eS hlt) rfl rfl rfl
 obtain⟨-,hs'⟩:=hst.bump (B':=.cells 2 (aZ P t).cells) hsome trivial (by omega) (c.w.alloc (.cells z.cells t)) c.w.heap.size (by simp) (by simp) (.inl (Nat.le_refl _)) (fun b hlt _=>eS hlt) rfl rfl rfl
  (.cells _ _ z.cells t (0,0) (by simp[Ctx.bump,hv]) (by simp[Ctx.bump]) (by simp only[Ctx.bump,if_true];exact lV _ _) (by omega) (.inr (Nat.le_refl _)) fun j y u p q=>(q2 j y u p q).mono hx)
 refine⟨c.bump i _ _,.pointer (some ⟨c.w.heap.size,0,none⟩),?_,hs',hx,.ref _ _ _ _ hi (by simp[Ctx.bump,hv]) rfl (fun _=>by simp[Ctx.bump])⟩
 simp[Instr.alloc,Sem.run_bind,h1,Instr.box,newVar,newRow,Ctx.bump]
theorem yO{N:Nat}{ops:Array Oper}{dst:Option Tmp}{t ty:TypeId}{pos:String}{after:Array Edge}{α:AF}{H:AHeap}{i:Nat}(hh:hget H i=.cells 1 [])(hs:(aZ P t).known=true):
  yv P N ops ⟨dst,.alloc t,ty,pos,after,none⟩ α (.ref i 2 0) H (aD H i (.cells 2 (aZ P t).cells)):=
 YG.of_does rfl (bV fun c a hst _=>by
  obtain⟨c',v,h1,h2,h3,h4⟩:=aC9 (P:=P) hst hh hs
  exact⟨c',v,by simp only[execOp,Sem.run_bind,h1];rfl,h2,h3,h4⟩)
theorem aFG{N:Nat}{code:Code}{Q:bP}{α:AF}{H:AHeap}(h:aw P N code Q α (H++[.cells 1 []])):aw P N code Q α H:=by
 intro r c a hr hst ha
 have hv:=Ext.void c
 exact wpIn_mono (h r c.void a hr hst.void ⟨ha.size,ha.defers.mono hv,fun u=>(ha.rep u).mono hv⟩) fun _ _ _ ⟨c',α',H',e1,e2,e3,e4,e5⟩=>⟨c',α',H',e1,e2,hv.trans e3,e4,e5⟩
def aAs:List Oper→List Pl→Bool
 |[],[]=>true
 |o::os,.free::ps=>nL o.op&&aAs os ps
 |_::os,.eff []::ps=>aAs os ps
 |_,_=>false
def aBI(ops:Array Oper)(effs:List Nat):List Oper→List Pl→Nat→Bool
 |[],[],_=>true
 |o::os,.free::ps,k=>nL o.op&&aBI ops effs os ps (k+1)
 |_::os,.pure w::ps,k=>(w==3)&&jT ops (k::effs)&&aBI ops effs os ps (k+1)
 |_,_,_=>false
def lst:Nat→Nat→Array Bool→Array Bool
 |0,_,l=>l
 |j+1,k,l=>lst j (k+1) (l.setIfInBounds k true)
section
variable {N:Nat} {ops:Array Oper} {eff:Nat→Bool} {K:AF→AHeap→Prop}
theorem aCh:∀(os:List Oper) (pl:List Pl) (k:Nat) (α:AF) (H:AHeap) (hist':List AHeap) (sp:hP) (hist:vW) (tp:hP),aAs os pl=true→(∀i,k≤i→(eff i=true↔i∈fP pl k))→
  (∀p∈tp,(∀h,p.2 h)∨∀i∈fP pl k,Bef ops p.1 i)→cD P ops.toList pl os k α H hist' sp K→aM P N ops eff K os k α H hist tp
 |[],[],_,_,_,_,_,_,_,_,_,_,h=>h
 |o::os,.free::pl,k,α,H,hist',sp,hist,tp,hp,he,hpo,h=>by
  rw[aAs,Bool.and_eq_true]at hp
  obtain⟨v,h1,h2⟩:=h
  have hne:eff k=false:=by
   rw[←Bool.not_eq_true,he k (Nat.le_refl _)]
   intro hm
   have:=jF pl (k+1) k hm
   omega
  refine⟨v,H,⟨h1.yv,fun q=>Bool.noConfusion (hne.symm.trans q),fun _=>⟨rfl,fun e _ _=>(lB hp.1 h1).yv⟩⟩,?_⟩
  simp only[hne,Bool.false_eq_true,if_false]
  refine aCh os pl (k+1) _ H hist' sp _ _ hp.2 (fun i hi=>he i (by omega)) ?_ h2
  intro p hpp
  cases hpp with
  |head=>exact .inl fun h=>(lB hp.1 h1).yv
  |tail _ hpp=>exact hpo p hpp
 |o::os,.eff []::pl,k,α,H,hist',sp,hist,tp,hp,he,hpo,h=>by
  obtain⟨v,H1,h1,h2,h3⟩:=h
  have hee:eff k=true:=by rw[he k (Nat.le_refl _)];exact .head _
  refine⟨v,H1,⟨aFD h1,fun _ p hpp hb=>?_,fun q=>Bool.noConfusion (hee.symm.trans q)⟩,?_⟩
  ·rcases hpo p hpp with q|q
   ·exact q _
   ·exact absurd (q k (.head _)) hb
  ·simp only[hee,if_true]
   refine aCh os pl (k+1) _ _ _ _ _ _ hp (fun i hi=>?_) (fun p hpp=>?_) h3
   ·rw[he i (by omega)]
    constructor
    ·intro hm
     cases hm with
     |head=>omega
     |tail _ hm=>exact hm
    ·exact .tail _
   ·rcases hpo p hpp with q|q
    ·exact .inl q
    ·exact .inr fun i hi=>q i (.tail _ hi)
theorem aBJ(hK:∀α β H,Alike α β→K α H→K β H)(k0:Nat)(hEE:∀i j,k0≤i→eff i=true→eff j=true→j≠i→∀listed,Closed ops listed→i∈Region.ready .any ops listed→j∈Region.ready .any ops listed→False):
  ∀(l:List Oper) (k:Nat) (listed:Array Bool) (α:AF) (H:AHeap) (hist:vW) (past:hP),k0≤k→(∀j,l[j]?=ops[k+j]?)→Closed ops listed→
  Region.lexFrom .any ops l.length k listed=true→aM P N ops eff K l k α H hist past→vX P N ops eff K l.length listed α H hist past
 |[],_,_,_,_,_,_,_,_,_,hB,h=>⟨by simpa[Region.lexFrom]using hB,h⟩
 |o::l,k,listed,α,H,hist,past,hk0,hl,hc,hB,h=>by
  have h0:ops[k]?=some o:=by simpa using(hl 0).symm
  simp only[List.length_cons,Region.lexFrom,Bool.and_eq_true]at hB
  obtain⟨⟨hr,hf⟩,hB'⟩:=hB
  obtain⟨v,H1,hy,hk⟩:=h
  have hr':k∈Region.ready .any ops listed:=by simpa using hr
  exact oR hK h0 (fun he j hj hne=>hEE k j hk0 he hj hne) l.length listed α H H1 hist past hc (Region.free_spec h0 hf) hr' hy
   (aBJ hK k0 hEE l (k+1) _ _ _ _ _ (by omega) (fun j=>by have:=hl (j+1);simpa[Nat.add_assoc,Nat.add_comm 1 j]using this) (hc.set hr') hB' hk)
def aQf(ops:Array Oper)(effs:List Nat)(A B C:AHeap)(tp:hP):Prop:=∀p∈tp,(∀h,p.2 h)∨(p.2 A∧p.2 B∧p.2 C∧∀i∈effs,Bef ops p.1 i)
theorem aAt(hK:∀α β H,Alike α β→K α H→K β H)(effs:List Nat)(A B C:AHeap)(m n:Nat)(kont:AF→AHeap→Prop):
  ∀(os:List Oper) (pl:List Pl) (k:Nat) (listed:Array Bool) (α:AF) (H:AHeap) (sp tp:hP),k+os.length=n→(∀i,i<n→eff i=false)→(∀j,j<os.length→os[j]?=ops[k+j]?)→Closed ops listed→
  aBI ops effs os pl k=true→Region.lexFrom .any ops (os.length+m) k listed=true→aQf ops effs A B C tp→
  (∀(αp:AF) (tp':hP) (listed':Array Bool),listed'=lst os.length k listed→Closed ops listed'→Region.lexFrom .any ops m n listed'=true→aQf ops effs A B C tp'→kont αp H→vX P N ops eff K m listed' αp H [] tp')→
  cD P ops.toList pl os k α H [A,B,C] sp kont→vX P N ops eff K (os.length+m) listed α H [] tp
 |[],[],k,listed,α,H,sp,tp,hn,_,_,hc,_,hB,hpp,hk,h=>by
  simp only[List.length_nil,Nat.zero_add,Nat.add_zero]at hB hn ⊢
  subst hn
  exact hk α tp listed rfl hc hB hpp h
 |o::os,.free::pl,k,listed,α,H,sp,tp,hn,he,hl,hc,hp,hB,hpp,hk,h=>by
  rw[aBI,Bool.and_eq_true]at hp
  obtain⟨v,h1,h2⟩:=h
  have hke:eff k=false:=he k (by simp at hn;omega)
  have h0:ops[k]?=some o:=by simpa using(hl 0 (by simp)).symm
  simp only[List.length_cons,Nat.succ_add,Region.lexFrom,Bool.and_eq_true]at hB ⊢
  obtain⟨⟨hr,hf⟩,hB'⟩:=hB
  have hr':k∈Region.ready .any ops listed:=by simpa using hr
  refine oR hK h0 (fun q=>Bool.noConfusion (hke.symm.trans q)) (os.length+m) listed α H H [] tp hc (Region.free_spec h0 hf) hr'
   ⟨h1.yv,fun q=>Bool.noConfusion (hke.symm.trans q),fun _=>⟨rfl,fun e he _=>by cases he⟩⟩ ?_
  simp only[hke,Bool.false_eq_true,if_false]
  refine aAt hK effs A B C m n kont os pl (k+1) _ _ H sp _ (by simp at hn;omega) he (fun j hj=>by have:=hl (j+1) (by simp;omega);simpa[Nat.add_assoc,Nat.add_comm 1 j]using this) (hc.set hr') hp.2 hB' ?_ hk h2
  intro p hpm
  cases hpm with
  |head=>exact .inl fun h=>(lB hp.1 h1).yv
  |tail _ hpm=>exact hpp p hpm
 |o::os,.pure w::pl,k,listed,α,H,sp,tp,hn,he,hl,hc,hp,hB,hpp,hk,h=>by
  simp only[aBI,Bool.and_eq_true,beq_iff_eq]at hp
  obtain⟨⟨rfl,hch⟩,hp⟩:=hp
  obtain⟨v,h1,h2,h3⟩:=h
  have hke:eff k=false:=he k (by simp at hn;omega)
  have h0:ops[k]?=some o:=by simpa using(hl 0 (by simp)).symm
  simp only[List.length_cons,Nat.succ_add,Region.lexFrom,Bool.and_eq_true]at hB ⊢
  obtain⟨⟨hr,hf⟩,hB'⟩:=hB
  have hr':k∈Region.ready .any ops listed:=by simpa using hr
  refine oR hK h0 (fun q=>Bool.noConfusion (hke.symm.trans q)) (os.length+m) listed α H H [] tp hc (Region.free_spec h0 hf) hr'
   ⟨h1.yv,fun q=>Bool.noConfusion (hke.symm.trans q),fun _=>⟨rfl,fun e he _=>by cases he⟩⟩ ?_
  simp only[hke,Bool.false_eq_true,if_false]
  refine aAt hK effs A B C m n kont os pl (k+1) _ _ H _ _ (by simp at hn;omega) he (fun j hj=>by have:=hl (j+1) (by simp;omega);simpa[Nat.add_assoc,Nat.add_comm 1 j]using this) (hc.set hr') hp hB' ?_ hk h3
  intro p hpm
  cases hpm with
  |head=>
   obtain⟨a1,a2,a3, -⟩:=h2
   exact .inr ⟨a1.yv,a2.yv,a3.yv,fun i hi=>(lR hch i hi).1⟩
  |tail _ hpm=>exact hpp p hpm
end
def aNQ(ops:Array Oper)(n:Nat)(t1 t2:TypeId)(d1 d2:Tmp):Bool:=
 match ops[n]?,ops[n+1]? with
 |some ⟨some a,.alloc s,_,_,_,none⟩,some ⟨some b,.alloc u,_,_,_,none⟩=>(a==d1)&&(b==d2)&&(s==t1)&&(u==t2)&& !(a==b)
 |_,_=>false
def aNR(ops:Array Oper)(n:Nat)(l:Array Bool):Bool:=
 (Region.ready .any ops l==[n,n+1])&&(Region.ready .any ops (l.setIfInBounds n true)==[n+1])&&(Region.ready .any ops (l.setIfInBounds (n+1) true)==[n])
def aIU(ops:Array Oper)(planA planB:List Pl)(n:Nat)(t1 t2:TypeId)(d1 d2:Tmp):Bool:=
 aNQ ops n t1 t2 d1 d2&&aNR ops n (lst n 0 (Array.replicate ops.size false))&&Nat.ble (n+2) ops.size&&
  aBI ops (fP planB (n+2)) (ops.toList.take n) planA 0&&aAs (ops.toList.drop (n+2)) planB&&jT ops (n::fP planB (n+2))&&jT ops ((n+1)::fP planB (n+2))
def aIV(P:Program)(all:List Oper)(planB:List Pl)(rest:List Oper)(n:Nat)(d1 d2:Tmp)(v1 v2:AV)(G:AHeap)(kont:AF→AHeap→Prop):AF→AHeap→Prop:=
 fun α _=>cD P all planB rest (n+2) ((d2,v2)::(d1,v1)::α) G [] [] kont
@[go_sem] theorem aUb(all:List Oper)(planB:List Pl)(rest:List Oper)(n:Nat)(d1 d2:Tmp)(v1 v2:AV)(G:AHeap)(kont:AF→AHeap→Prop)(α:AF)(H:AHeap):
  aIV P all planB rest n d1 d2 v1 v2 G kont α H=cD P all planB rest (n+2) ((d2,v2)::(d1,v1)::α) G [] [] kont:=rfl
@[go_sem] theorem aU2(o:Oper)(os:List Oper)(n:Nat):List.take (n+1) (o::os)=o::List.take n os:=rfl
@[go_sem] theorem aU3(os:List Oper):List.take 0 os=[]:=rfl
@[go_sem] theorem aU4(o:Oper)(os:List Oper)(n:Nat):List.drop (n+1) (o::os)=List.drop n os:=rfl
@[go_sem] theorem aU5(os:List Oper):List.drop 0 os=os:=rfl
theorem cE{N id:Nat}{ops:Array Oper}{Q:bP}{α:AF}{H:AHeap}(planA planB:List Pl)(n:Nat)(t1 t2:TypeId)(d1 d2:Tmp)(hm:P.follows .mixedOrders=true)(hd:pS N ops=true)(hB:Region.lexB .any ops=true)
  (hp:aIU ops planA planB n t1 t2 d1 d2=true) (hz1:(aZ P t1).known=true) (hz2:(aZ P t2).known=true)
  (h:cD P ops.toList planA (ops.toList.take n) 0 α (H++[.cells 1 [],.cells 1 []])
   [H++[.cells 2 (aZ P t1).cells,.cells 1 []],H++[.cells 1 [],.cells 2 (aZ P t2).cells],H++[.cells 2 (aZ P t1).cells,.cells 2 (aZ P t2).cells]] []
   (aIV P ops.toList planB (ops.toList.drop (n+2)) n d1 d2 (.ref H.length 2 0) (.ref (H.length+1) 2 0) (H++[.cells 2 (aZ P t1).cells,.cells 2 (aZ P t2).cells]) (fun α' H'=>Q .normal α' H'))):aw P N (.region id ops true) Q α H:=by
 refine aFG (aFG ?_)
 rw[List.append_assoc,List.singleton_append]
 intro r c a _ hs ha
 simp only[Region.lexB,Bool.and_eq_true]at hB
 simp only[aIU,Bool.and_eq_true,Nat.ble_eq]at hp
 obtain⟨⟨⟨⟨⟨⟨hO,hR⟩,hn⟩,hA⟩,hT⟩,hc1⟩,hc2⟩:=hp
 obtain⟨G1,hG1⟩:∃G,H++[.cells 2 (aZ P t1).cells,.cells 1 []]=G:=⟨_,rfl⟩
 obtain⟨G2,hG2⟩:∃G,H++[.cells 1 [],.cells 2 (aZ P t2).cells]=G:=⟨_,rfl⟩
 obtain⟨G3,hG3⟩:∃G,H++[.cells 2 (aZ P t1).cells,.cells 2 (aZ P t2).cells]=G:=⟨_,rfl⟩
 obtain⟨G0,hG0⟩:∃G,H++[.cells 1 [],.cells 1 []]=G:=⟨_,rfl⟩
 rw[hG0]at hs
 rw[hG0,hG1,hG2,hG3]at h
 have u1:hget G0 H.length=.cells 1 []:=by rw[←hG0];simp[hget]
 have u2:hget G0 (H.length+1)=.cells 1 []:=by rw[←hG0];simp[hget]
 have u3:hget G1 (H.length+1)=.cells 1 []:=by rw[←hG1];simp[hget]
 have u4:hget G2 H.length=.cells 1 []:=by rw[←hG2];simp[hget]
 have s1:aD G0 H.length (.cells 2 (aZ P t1).cells)=G1:=by rw[←hG0,←hG1];simp[aD]
 have s2:aD G0 (H.length+1) (.cells 2 (aZ P t2).cells)=G2:=by rw[←hG0,←hG2];simp[aD]
 have s3:aD G1 (H.length+1) (.cells 2 (aZ P t2).cells)=G3:=by rw[←hG1,←hG3];simp[aD]
 have s4:aD G2 H.length (.cells 2 (aZ P t1).cells)=G3:=by rw[←hG2,←hG3];simp[aD]
 refine wpIn_region_any hm ?_
 obtain⟨effs,hef⟩:∃effs,effs=fP planB (n+2):=⟨_,rfl⟩
 have hefm:∀i∈effs,n+2≤i:=fun i hi=>jF planB (n+2) i (hef▸hi)
 obtain⟨eff,hfe⟩:∃eff:Nat→Bool,eff=fun i=>(i==n)||(i==n+1)||effs.contains i:=⟨_,rfl⟩
 have eN:eff n=true:=by rw[hfe];simp
 have eN1:eff (n+1)=true:=by rw[hfe];simp
 have eI:∀i,n+2≤i→(eff i=true↔i∈fP planB (n+2)):=fun i hi=>by
  rw[hfe,←hef]
  have a1:(i==n)=false:=by simp;omega
  have a2:(i==n+1)=false:=by simp;omega
  simp only[a1,a2,Bool.false_or,List.contains_iff_mem]
 have eL:∀i,i<n→eff i=false:=fun i hi=>by
  rw[hfe]
  have a1:(i==n)=false:=by simp;omega
  have a2:(i==n+1)=false:=by simp;omega
  have a3:effs.contains i=false:=by
   rw[←Bool.not_eq_true,List.contains_iff_mem]
   intro hm
   have:=hefm i hm
   omega
  simp only[a1,a2,a3,Bool.or_false]
 let K:AF→AHeap→Prop:=fun α' H'=>∃β,Alike α' β∧Q .normal β H'
 have hK:∀α β H,Alike α β→K α H→K β H:=fun α β H hab ⟨γ,hg,hq⟩=>⟨γ,fun t=>(hab t).symm.trans (hg t),hq⟩
 have hEE:∀i j,n+2≤i→eff i=true→eff j=true→j≠i→∀listed,Closed ops listed→i∈Region.ready .any ops listed→j∈Region.ready .any ops listed→False:=by
  intro i j hi hei hej hne listed hc h1 h2
  have him:i∈fP planB (n+2):=(eI i hi).1 hei
  rcases Nat.lt_or_ge j n with hj|hj
  ·rw[eL j hj]at hej;cases hej
  ·rcases Nat.lt_or_ge j (n+2)with hj2|hj2
   ·have hjj:j=n∨j=n+1:=by omega
    rcases hjj with e|e
    ·subst e;exact oQ hc h2 h1 (lR hc1 i him).1
    ·subst e;exact oQ hc h2 h1 (lR hc2 i him).1
   ·rcases zT (zS hc1) i j him ((eI j hj2).1 hej) hne with q|q
    ·exact oQ hc h1 h2 q
    ·exact oQ hc h2 h1 q
 obtain⟨z1,q1,f1,z2,q2,f2,ho1,ho2,hab⟩:∃(z1:TypeId) (q1:String) (f1:Array Edge) (z2:TypeId) (q2:String) (f2:Array Edge) (_:ops[n]?=some ⟨some d1,.alloc t1,z1,q1,f1,none⟩) (_:ops[n+1]?=some ⟨some d2,.alloc t2,z2,q2,f2,none⟩),d1≠d2:=by
  unfold aNQ at hO
  split at hO
  ·rename_i a s z1 q1 f1 b u z2 q2 f2 e1 e2
   simp only[Bool.and_eq_true,beq_iff_eq,Bool.not_eq_true',beq_eq_false_iff_ne]at hO
   obtain⟨⟨⟨⟨rfl,rfl⟩,rfl⟩,rfl⟩,hne⟩:=hO
   exact⟨z1,q1,f1,z2,q2,f2,e1,e2,hne⟩
  ·cases hO
 have hc0:Closed ops (Array.replicate ops.size false):=by
  intro q o hq
  rw[Array.getD_eq_getD_getElem?]at hq
  by_cases hlt:q<ops.size<;>simp[Array.getElem?_replicate,hlt]at hq
 obtain⟨rest,hrs⟩:∃rest,rest=ops.toList.drop (n+2):=⟨_,rfl⟩
 have hrl:rest.length=ops.size-(n+2):=by rw[hrs,List.length_drop,Array.length_toList]
 have hlen:(ops.toList.take n).length=n:=by rw[List.length_take,Array.length_toList];omega
 rw[←hrs]at h hT
 have key:∀(αp:AF) (tp':hP) (L:Array Bool),L=lst (ops.toList.take n).length 0 (Array.replicate ops.size false)→Closed ops L→Region.lexFrom .any ops (rest.length+2) n L=true→aQf ops effs G1 G2 G3 tp'→
   aIV P ops.toList planB rest n d1 d2 (.ref H.length 2 0) (.ref (H.length+1) 2 0) G3 (fun α' H'=>Q .normal α' H') αp G0→vX P N ops eff K (rest.length+2) L αp G0 [] tp':=by
  intro αp tp' L hL hcl hlx hpp hk
  rw[hlen]at hL
  simp only[Region.lexFrom,Bool.and_eq_true]at hlx
  obtain⟨⟨hr1, -⟩,⟨hr2, -⟩,hlx⟩:=hlx
  rw[←hL]at hR
  simp only[aNR,Bool.and_eq_true,beq_iff_eq]at hR
  obtain⟨⟨R0,R1⟩,R2⟩:=hR
  have hcl2:=(hcl.set (j:=n) (by rw[R0];exact .head _)).set (j:=n+1) (by rw[R1];exact .head _)
  have hfin:∀hist,vX P N ops eff K rest.length ((L.setIfInBounds n true).setIfInBounds (n+1) true) (bZ (some d2) (.ref (H.length+1) 2 0) (bZ (some d1) (.ref H.length 2 0) αp)) G3 hist tp':=fun hist=>
   aBJ hK (n+2) hEE rest (n+2) _ _ G3 hist tp' (Nat.le_refl _) (fun j=>by rw[hrs,List.getElem?_drop,Array.getElem?_toList]) hcl2 hlx
    (aCh rest planB (n+2) _ G3 [] [] hist tp' hT eI (fun p hp=>(hpp p hp).imp (fun q=>q) fun q=>by rw[←hef];exact q.2.2.2)
     (zU (k':=K) (fun α' H' hq=>⟨α',fun _=>rfl,hq⟩) _ _ _ _ _ _ _ hk))
  have ya:∀α,yv P N ops ⟨some d1,.alloc t1,z1,q1,f1,none⟩ α (.ref H.length 2 0) G0 G1:=fun α=>by rw[←s1];exact yO u1 hz1
  have yb:∀α,yv P N ops ⟨some d2,.alloc t2,z2,q2,f2,none⟩ α (.ref (H.length+1) 2 0) G0 G2:=fun α=>by rw[←s2];exact yO u2 hz2
  have yc:∀α,yv P N ops ⟨some d2,.alloc t2,z2,q2,f2,none⟩ α (.ref (H.length+1) 2 0) G1 G3:=fun α=>by rw[←s3];exact yO u3 hz2
  have yd:∀α,yv P N ops ⟨some d1,.alloc t1,z1,q1,f1,none⟩ α (.ref H.length 2 0) G2 G3:=fun α=>by rw[←s4];exact yO u4 hz1
  have pa:∀p∈tp',p.2 G1:=fun p hp=>(hpp p hp).elim (fun q=>q _) fun q=>q.1
  have pb:∀p∈tp',p.2 G2:=fun p hp=>(hpp p hp).elim (fun q=>q _) fun q=>q.2.1
  have pc:∀p∈tp',p.2 G3:=fun p hp=>(hpp p hp).elim (fun q=>q _) fun q=>q.2.2.1
  refine⟨fun h0=>(by rw[R0]at h0;cases h0),fun i hi=>?_⟩
  rw[R0]at hi
  cases hi with
  |head=>
   unfold qM
   simp only[ho1,eN,if_true]
   refine⟨_,G1,ya _,fun p hp _=>pa p hp,⟨fun h0=>(by rw[R1]at h0;cases h0),fun j hj=>?_⟩⟩
   rw[R1]at hj
   cases hj with
   |head=>
    unfold qM
    simp only[ho2,eN1,if_true]
    exact⟨_,G3,yc _,fun p hp _=>pc p hp,hfin _⟩
   |tail _ hj=>cases hj
  |tail _ hi=>
   cases hi with
   |head=>
    unfold qM
    simp only[ho2,eN1,if_true]
    refine⟨_,G2,yb _,fun p hp _=>pb p hp,⟨fun h0=>(by rw[R2]at h0;cases h0),fun j hj=>?_⟩⟩
    rw[R2]at hj
    cases hj with
    |head=>
     unfold qM
     simp only[ho1,eN,if_true]
     refine⟨_,G3,yd _,fun p hp _=>pc p hp,?_⟩
     rw[Array.setIfInBounds_comm _ _ (by omega)]
     exact kJ hK _ _ _ _ _ _ _ _ (iI fun d hd he=>by cases hd;cases he;exact hab rfl) (.refl _) (hfin _)
    |tail _ hj=>cases hj
   |tail _ hi=>cases hi
 have hsz:(ops.toList.take n).length+(rest.length+2)=ops.size:=by rw[hlen,hrl];omega
 have h3:=aAt (N:=N) (ops:=ops) (eff:=eff) hK effs G1 G2 G3 (rest.length+2) n _ (ops.toList.take n) planA 0 (Array.replicate ops.size false) α G0 [] [] (by rw[hlen];omega) eL
  (fun j hj=>by rw[hlen]at hj;rw[List.getElem?_take_of_lt hj,Array.getElem?_toList,Nat.zero_add]) hc0 (by rw[hef];exact hA) (by rw[hsz];exact hB.2) (fun p hp=>by cases hp) key h
 have h4:=kX (r:=r) (P:=P) (Q:=aBp N c Q) hd c (fun α' H' c' a' ⟨β,hab,hq⟩ hs' hx' ha'=>⟨c',β,H',rfl,hs',hx',ha'.weaken fun t=>.inr (hab t).symm,hq⟩)
  _ (Array.replicate ops.size false) α G0 _ _ c.draw a hs.draw (Ext.draw c) (ha.mono (Ext.draw c)) h3
 rw[hsz]at h4
 exact h4
end Go.Aw
