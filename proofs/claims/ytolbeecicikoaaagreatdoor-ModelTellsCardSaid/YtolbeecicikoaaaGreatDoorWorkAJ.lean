/- The texts 10 of 53 beneath the rows of this seat (joined by program): the abstract machine, and what the functions answer. No condition. -/
import Derived.Test.YtolbeecicikoaaaGreatDoorWorkAE
import Derived.Test.YtolbeecicikoaaaGreatDoorWorkAI
import Derived.Laws.Bits64
set_option linter.unusedSimpArgs false
set_option linter.unusedVariables false
set_option linter.unusedSectionVars false
set_option maxRecDepth 100000
set_option maxHeartbeats 16000000
namespace Go.Proofs.YtolbeecicikoaaaGreatDoor
theorem aBR{i n:Nat}(h:i<n)(hn:n≤9223372036854775807):IntKind.i64.wrap ((i:Int)-1)=(i:Int)-1:=wI
theorem aAL(i:Nat):((i:Int)-1).toNat=i-1:=by omega
theorem aK{i n:Nat}(h:i<n)(hn:n≤9223372036854775807):IntKind.i64.wrap ((i:Int)+1)=((i+1:Nat):Int):=by rw[wI];rfl
theorem jR(b:Bool)(l:List Nd)(H:AHeap):bD Tryz.prog 148 [.sl b (l.map ndA)] H (.bool (chk l)):=by
 refine aCi fun hok=>?_
 have hl:=jB hok
 rw[zAj]at hl
 refine fO Tryz.func148 ?_
 refine hG ?_
 refine aH (ι:=Nat×AHeap) (fun x=>[(0,.sl b (l.map ndA)),(8,.sl b (l.map ndA)),(9,.int .i64 l.length),(10,.int .i64 x.1)]) (fun x=>H++x.2) (fun x=>x.1≤l.length∧chk l=aAF (oP l x.1) (l.drop x.1)) (fun x=>l.length-x.1) (0,[]) ⟨zAn _,rfl⟩ ?_ (by simp) ?_
 ·simp[go_sem]
 ·rintro⟨i,L⟩ ⟨hi,he⟩
  simp only at hi he ⊢
  generalize hG:H++L=G
  by_cases hlt:i<l.length
  ·have hp:=aJ ndA hlt
   have hq:=aJ ndA (show i-1<l.length by omega)
   have hw:=aBR hlt hl
   have ht:=aAL i
   rw[aBN hlt]at he
   repeat' first|((first|refine gQ (aCr _) ?_|refine gS ?_);simp only[go_sem,hp,hq,hw,ht,ndA])|refine gA ?_|(refine gD (fun h=>?_) (fun h=>?_)<;>try exact aA h)|fail
   ·refine aF2 hG (by simp only[go_sem]) (.of ?_)
    have h2:(dQ l[i].id&& !(decide ((0:Int)<(i:Int))&&decide (l[i].id≤l[i-1].id)))=false:=by rw[←zBc,Bool.not_and,Bool.not_not];exact h
    rw[he,h2];rfl
   ·have h2:(dQ l[i].id&& !(decide ((0:Int)<(i:Int))&&decide (l[i].id≤l[i-1].id)))=true:=by rw[←Bool.not_eq_false',Bool.not_and,Bool.not_not];exact h
    rw[h2,zAB]at he
    exact⟨(i+1,_),⟨hlt,he⟩,by simp only;omega,zAp _ (aK hlt hl),aO7 hG⟩
  ·have hi':i=l.length:=by omega
   subst hi'
   repeat' first|(refine gS ?_;simp only[go_sem])|refine gA ?_|(refine gD (fun h=>?_) (fun h=>?_)<;>try exact aA h)|fail
   refine aAq hG (by simp only[go_sem]) (.of ?_)
   rw[he,zA7];rfl
theorem pY(b:Bool)(l:List Nd)(H:AHeap):bD Tryz.prog 124 [.sl b (l.map ndA)] H (.bool (chk l)):=by
 refine aCi fun hok=>?_
 have hl:=jB hok
 rw[zAj]at hl
 refine fO Tryz.func124 ?_
 refine hG ?_
 refine aH (ι:=Nat×AHeap) (fun x=>[(0,.sl b (l.map ndA)),(3,.int .i64 x.1)]) (fun x=>H++x.2) (fun x=>x.1≤l.length∧chk l=aAF (oP l x.1) (l.drop x.1)) (fun x=>l.length-x.1) (0,[]) ⟨zAn _,rfl⟩ ?_ (by simp) ?_
 ·simp[go_sem]
 ·rintro⟨i,L⟩ ⟨hi,he⟩
  simp only at hi he ⊢
  generalize hG:H++L=G
  by_cases hlt:i<l.length
  ·have hp:=aJ ndA hlt
   have hq:=aJ ndA (show i-1<l.length by omega)
   have hw:=aBR hlt hl
   have ht:=aAL i
   rw[aBN hlt]at he
   repeat' first|((first|refine gQ (aJA _) ?_|refine gS ?_);simp only[go_sem,hp,hq,hw,ht,ndA])|refine gA ?_|(refine gD (fun h=>?_) (fun h=>?_)<;>try exact aA h)|fail
   ·refine aF2 hG (by simp only[go_sem]) (.of ?_)
    have h2:(dQ l[i].id&& !(decide ((0:Int)<(i:Int))&&decide (l[i].id≤l[i-1].id)))=false:=by rw[←zBc,Bool.not_and,Bool.not_not];exact h
    rw[he,h2];rfl
   ·have h2:(dQ l[i].id&& !(decide ((0:Int)<(i:Int))&&decide (l[i].id≤l[i-1].id)))=true:=by rw[←Bool.not_eq_false',Bool.not_and,Bool.not_not];exact h
    rw[h2,zAB]at he
    exact⟨(i+1,_),⟨hlt,he⟩,by simp only;omega,zAp _ (aK hlt hl),aO7 hG⟩
  ·have hi':i=l.length:=by omega
   subst hi'
   repeat' first|(refine gS ?_;simp only[go_sem])|refine gA ?_|(refine gD (fun h=>?_) (fun h=>?_)<;>try exact aA h)|fail
   refine aAq hG (by simp only[go_sem]) (.of ?_)
   rw[he,zA7];rfl
def aBn(a b:Int):Int:=if a<b then-1 else if b<a then 1 else 0
theorem aUa(a:Int)(H:AHeap):bD Tryz.prog 204 [.int .i64 a] H (.bool false):=by
 refine fO Tryz.func204 ?_
 refine hG ?_
 exact bL (.of (by simp))
theorem aUb(a b:Int)(H:AHeap):bD Tryz.prog 181 [.int .i64 a,.int .i64 b] H (.int .i64 (aBn a b)):=by
 refine fO Tryz.func181 ?_
 repeat' first|((first|refine gQ (aUa _) ?_|refine gS ?_);simp only[go_sem])|refine gA ?_|(refine gD (fun h=>?_) (fun h=>?_)<;>try exact aA h)|fail
 all_goals(simp only[zAr,zAC]at *)
 ·exact bL (.of (by rw[aBn,zAc h]))
 ·exact bL (.of (by rw[aBn,zAb (by assumption),zAc h]))
 ·exact bL (.of (by rw[aBn,zAb (by assumption),zAb h]))
theorem aQW(n:Nd)(id:Int)(H:AHeap):bD Tryz.prog 180 [ndA n,.int .i64 id] H (.int .i64 (aBn n.id id)):=by
 refine fO Tryz.func180 ?_
 simp only[ndA]
 repeat' first|((first|refine gQ (aUb _ _) ?_|refine gS ?_);simp only[go_sem])|refine gA ?_|(refine gD (fun h=>?_) (fun h=>?_)<;>try exact aA h)|fail
 exact dY (.refl _)
theorem aQX{i j n:Nat}(hi:i≤j)(hj:j≤n)(hn:n≤9223372036854775807):
  IntKind.i64.wrap ((IntKind.u64.wrap (IntKind.i64.wrap ((i:Int)+(j:Int)))).fdiv (2 ^ min 1 64))=(((i+j) / 2:Nat):Int):=by
 have e1:IntKind.u64.wrap (IntKind.i64.wrap ((i:Int)+(j:Int)))=(i:Int)+(j:Int):=by
  rw[IntKind.wrap_i64,IntKind.wrap_u64];omega
 have e2:(2:Int) ^ min 1 64=2:=by decide
 rw[e1,e2,Int.fdiv_eq_ediv_of_nonneg _ (by omega),wI]
 omega
theorem aV3(b:Bool)(l:List Nd)(id:Int)(fn:Fn)(fs cs:List AV)(hs:chk l=true)(H:AHeap)(hf:∀n:Nd,FnV Tryz.prog (.func fn fs cs) [ndA n,.int .i64 id] H (.int .i64 (aBn n.id id))):
  bD Tryz.prog 179 [.sl b (l.map ndA),.int .i64 id,.func fn fs cs] H (.tup [.int .i64 (pos l id),.bool (had l id)]):=by
 refine aMM fun hok _ _=>?_
 have hl:=jB hok
 rw[zAj]at hl
 have hpw:=((oG l).1 hs).2
 rw[zBn]at hpw
 simp only[ndA]at hf
 refine fO Tryz.func179 ?_
 refine hG ?_
 refine aH (ι:=Nat×Nat) (fun x=>[(0,.sl b (l.map ndA)),(1,.int .i64 id),(2,.func fn fs cs),(8,.int .i64 l.length),(9,.int .i64 x.1),(10,.int .i64 x.2)]) (fun x=>H)
  (fun x=>x.1≤x.2∧x.2≤l.length∧(∀k (h:k<l.length),k<x.1→l[k].id<id)∧∀k (h:k<l.length),x.2≤k→¬l[k].id<id) (fun x=>x.2-x.1) (0,l.length) ⟨zAn _,zAh _,fun k _ h=>by simp at h,fun k h h2=>by simp at h2;omega⟩ ?_ rfl ?_
 ·simp[go_sem]
 ·rintro⟨i,j⟩ ⟨hi,hj,h1,h2⟩
  simp only at hi hj h1 h2 ⊢
  by_cases hlt:i<j
  ·have hm:=aQX hi hj hl
   have hml:(i+j) / 2<l.length:=by omega
   have hp:=aJ ndA hml
   repeat' first|(refine gS ?_;simp only[go_sem,hm,hp,ndA])|refine gA ?_|(refine gD (fun h=>?_) (fun h=>?_)<;>try exact aA h)|fail
   refine rF (hf _) ?_
   simp only[go_sem,hm,hp,ndA]
   repeat' first|refine hH ?_|(refine gD (fun h=>?_) (fun h=>?_)<;>try exact aA h)|fail
   ·have hc:l[(i+j) / 2].id<id:=by
     have h':=zA6 h
     unfold aBn at h'
     repeat' split at h'
     all_goals omega
    refine⟨((i+j) / 2+1,j),⟨by simp only;omega,hj,fun k hk hk2=>?_,h2⟩,by simp only;omega,zAp _ (aK hml hl),rfl⟩
    simp only at hk2
    rcases zCD k ((i+j) / 2)with hk3|hk3
    ·exact Int.lt_trans (hpw k _ hk hml hk3) hc
    ·obtain rfl:k=(i+j) / 2:=by omega
     exact hc
   ·have hc:¬l[(i+j) / 2].id<id:=by
     have h':=zBT h
     unfold aBn at h'
     repeat' split at h'
     all_goals omega
    refine⟨(i,(i+j) / 2),⟨by simp only;omega,by simp only;omega,h1,fun k hk hk2=>?_⟩,by simp only;omega,rfl,rfl⟩
    simp only at hk2
    rcases zCD ((i+j) / 2) k with hk3|hk3
    ·have:=hpw _ k hml hk hk3;omega
    ·obtain rfl:k=(i+j) / 2:=by omega
     exact hc
  ·have hi':i=j:=by omega
   subst hi'
   have hpos:=aQU hj (fun k hk=>h1 k (by omega) hk) (fun h=>h2 i h (zAh _))
   by_cases hlt2:i<l.length
   ·have hp:=aJ ndA hlt2
    repeat' first|(refine gS ?_;simp only[go_sem,hp,ndA])|refine gA ?_|(refine gD (fun h=>?_) (fun h=>?_)<;>try exact aA h)|fail
    have hf0:=fun n=>(hf n) []
    simp only[zAg]at hf0
    refine⟨_,fun _=>hf0 _,?_⟩
    simp only[go_sem,hp,ndA]
    refine hH ?_
    refine bL (.of ?_)
    rw[pW hs,hpos,zAo hlt2]
    have e1:decide ((i:Int)<(l.length:Int))=true:=by simpa using hlt2
    have e2:decide (aBn l[i].id id=0)=decide (l[i].id=id):=by
     unfold aBn
     rcases Int.lt_trichotomy l[i].id id with q|q|q
     ·rw[zAc q,eT (show ¬l[i].id=id by omega)];rfl
     ·rw[zAb (by omega),zAb (by omega),zAd q];rfl
     ·rw[zAb (by omega),zAc q,eT (show ¬l[i].id=id by omega)];rfl
    rw[e1,e2];rfl
   ·refine hH ?_
    have e1:decide ((i:Int)<(l.length:Int))=false:=by simpa using hlt2
    refine⟨.int .i64 1,fun hg=>?_,?_⟩
    ·rw[e1]at hg;cases hg
    simp only[go_sem]
    refine hG ?_
    refine bL (.of ?_)
    rw[pW hs,hpos,zCl (by omega),e1];rfl
theorem zW(b:Bool)(l:List Nd)(id:Int)(hs:chk l=true)(H:AHeap):bD Tryz.prog 151 [.sl b (l.map ndA),.int .i64 id] H (.tup [.int .i64 (pos l id),.bool (had l id)]):=by
 refine fO Tryz.func151 ?_
 have hbs:=aV3 b l id (.func 180) [] [] hs H fun n=>.mk (first:=[]) (cap:=[]) (fun L=>aQW n id (H++L)) (cO)
 repeat' first|((first|refine aY (hbs) (cO) ?_|refine aZ (hbs) (cO) ?_|refine bA (fun _=>hbs) (cO) ?_|refine gS ?_);simp only[go_sem])|refine gA ?_|(refine gD (fun h=>?_) (fun h=>?_)<;>try exact aA h)|fail
 exact bL (.refl _)
def ndV(r:Option Nd):AV:=.tup [ndA (r.getD nd0),.bool r.isSome]
theorem aQY(b:Bool)(l:List Nd)(id:Int)(H:AHeap):bD Tryz.prog 98 [.sl b (l.map ndA),.int .i64 id] H (ndV (findI l id)):=by
 refine fO Tryz.func98 ?_
 unfold findI
 cases hs:chk l with
 |false=>
  repeat' first|((first|refine gQ (jR _ _) ?_|refine gS ?_);simp only[go_sem,hs])|refine gA ?_|(refine gD (fun h=>?_) (fun h=>?_)<;>try exact aA h)|fail
  exact dY (.refl _)
 |true=>
  have hpl:=zW b l id hs
  cases hh:had l id with
  |false=>
   repeat' first|((first|refine gQ (jR _ _) ?_|refine gS ?_);simp only[go_sem,hs,hh])|refine gA ?_|(refine gD (fun h=>?_) (fun h=>?_)<;>try exact aA h)|fail
   rw[aCt hh]
   exact dY (.refl _)
  |true=>
   have hlt:=nF hs hh
   have hp:=aJ ndA hlt
   rw[zU hs hh]
   repeat' first|((first|refine gQ (jR _ _) ?_|refine gS ?_);simp only[go_sem,hs,hh,hp,ndA])|refine gA ?_|(refine gD (fun h=>?_) (fun h=>?_)<;>try exact aA h)|fail
   exact dY (.refl _)
end Go.Proofs.YtolbeecicikoaaaGreatDoor
namespace Go.Proofs.YtolbeecicikoaaaGreatDoor
def vG:List Pl:=[.pure 0,.pure 0,.pure 0,.pure 0,.pure 0,.pure 0,.free,.eff [false,false,false,false,false,false]]
attribute [go_sem] vG
theorem jD(l:List Ent):∀e∈l.map dM,e.cells.length=17:=fun e he=>by
 obtain⟨x,_,rfl⟩:=zAi.1 he;rfl
theorem iT(l:List Ent):(∀e∈l.map dM,e.cells.length=17)=True:=zAI (jD l)
theorem tG(l:List Ent):∀e∈l.map dM,Pur e:=fun e he=>by
 obtain⟨x,_,rfl⟩:=zAi.1 he;first|exact(by simp only[go_sem])|(simp only[dM];exact(by simp only[go_sem]))
theorem aHE(b:Bool)(l:List Ent)(hl:l.length≤1073741824)(H:AHeap):bD Tryz.prog 135 [.sl b (l.map dM)] H (.sl false (l.map dM)):=by
 refine fO Tryz.func135 ?_
 refine hG ?_
 intro c hc
 cases c with
 |true=>
  have hnil:l=[]:=by
   cases l with
   |nil=>rfl
   |cons x l=>exact absurd (hc (by simp)) (by decide)
  subst hnil
  refine hG ?_
  exact bL (.sl _ _)
 |false=>
  clear hc
  refine hK @iT ?_
  exact fN (cs:=List.flatMap AV.cells (List.map dM l)) (es:=l.map dM) (rest:=[]) (zAh _) (by simp only[go_sem]) (zAg _).symm (by rw[zAj]) (jD _) (tG _) rfl
theorem qK(l:List Nd):∀e∈l.map ndA,e.cells.length=8:=fun e he=>by
 obtain⟨x,_,rfl⟩:=zAi.1 he;rfl
theorem xE(l:List Nd):(∀e∈l.map ndA,e.cells.length=8)=True:=zAI (qK l)
theorem aBo(l:List Nd):∀e∈l.map ndA,Pur e:=fun e he=>by
 obtain⟨x,_,rfl⟩:=zAi.1 he;first|exact(by simp only[go_sem])|(simp only[ndA];exact(by simp only[go_sem]))
theorem aHF(b:Bool)(l:List Nd)(hl:l.length≤1073741824)(H:AHeap):bD Tryz.prog 102 [.sl b (l.map ndA)] H (.sl false (l.map ndA)):=by
 refine fO Tryz.func102 ?_
 refine hG ?_
 intro c hc
 cases c with
 |true=>
  have hnil:l=[]:=by
   cases l with
   |nil=>rfl
   |cons x l=>exact absurd (hc (by simp)) (by decide)
  subst hnil
  refine hG ?_
  exact bL (.sl _ _)
 |false=>
  clear hc
  refine hK @xE ?_
  exact fN (cs:=List.flatMap AV.cells (List.map ndA l)) (es:=l.map ndA) (rest:=[]) (zAh _) (by simp only[go_sem]) (zAg _).symm (by rw[zAj]) (qK _) (aBo _) rfl
theorem aDJ(b:Bool)(l:List Ent)(fn:Fn)(fs cs:List AV)(p:Ent→Bool)(H:AHeap)(hf:∀c,FnV Tryz.prog (.func fn fs cs) [dM c] H (.bool (p c))):
  bD Tryz.prog 188 [.sl b (l.map dM),.func fn fs cs] H (.int .i64 (gX p l)):=by
 refine eR fun hok _=>?_
 have hl:=jB hok
 rw[zAj]at hl
 simp only[dM]at hf
 refine fO Tryz.func188 ?_
 refine hG ?_
 refine aH (ι:=Nat) (fun i=>[(0,.sl b (l.map dM)),(1,.func fn fs cs),(7,.int .i64 l.length),(8,.int .i64 i)]) (fun _=>H) (fun i=>i≤l.length∧∀k (hk:k<i) (hk2:k<l.length),p l[k]=false) (fun i=>l.length-i) 0 ⟨zAn _,fun k hk=>by omega⟩ ?_ rfl ?_
 ·simp[go_sem]
 ·rintro i ⟨hi,hno⟩
  by_cases hlt:i<l.length
  ·have hp:=aJ dM hlt
   repeat' first|(refine gS ?_;simp only[go_sem,hp,dM])|refine gA ?_|(refine gD (fun h=>?_) (fun h=>?_)<;>try exact aA h)|fail
   refine rF (hf _) ?_
   simp only[go_sem]
   repeat' first|refine hG ?_|(refine gD (fun h=>?_) (fun h=>?_)<;>try exact aA h)|fail
   ·exact bL (.of (by rw[mF p l i hlt (fun k hk=>hno k hk (by omega)) h]))
   ·refine⟨i+1,⟨hlt,fun k hk hk2=>?_⟩,by omega,by rw[wI];rfl⟩
    by_cases e:k=i
    ·subst e;exact h
    ·exact hno k (by omega) hk2
  ·have hi':i=l.length:=by omega
   repeat' first|(refine gS ?_;simp only[go_sem])|refine gA ?_|(refine gD (fun h=>?_) (fun h=>?_)<;>try exact aA h)|fail
   subst hi'
   exact bL (.of (by rw[mG p l fun k hk=>hno k hk hk]))
theorem aM6(b:Bool)(l:List Ent)(fn:Fn)(fs cs:List AV)(p:Ent→Bool)(H:AHeap)(hf:∀c,FnV Tryz.prog (.func fn fs cs) [dM c] H (.bool (p c))):
  bD Tryz.prog 157 [.sl b (l.map dM),.func fn fs cs] H (.bool (l.any p)):=by
 refine fO Tryz.func157 ?_
 have hx:=aDJ b l fn fs cs p H hf
 repeat' first|((first|refine aY (hx) (cO) ?_|refine aZ (hx) (cO) ?_|refine bA (fun _=>hx) (cO) ?_|refine gS ?_);simp only[go_sem])|refine gA ?_|(refine gD (fun h=>?_) (fun h=>?_)<;>try exact aA h)|fail
 exact bL (.of (by rw[oV]))
theorem aM7(b1 b2:Bool)(g:Lg)(h1:g.entries.length≤1073741824)(h2:g.nodes.length≤1073741824)(H:AHeap):bD Tryz.prog 76 [qT b1 b2 g] H (lgA g):=by
 refine fO Tryz.func76 ?_
 have hc1:=aHE b1 g.entries h1
 have hc2:=aHF b2 g.nodes h2
 simp only[qT]
 repeat' first|((first|refine mx [1] vG ?_|refine gS ?_);simp only[go_sem])|refine gA ?_|(refine gD (fun h=>?_) (fun h=>?_)<;>try exact aA h)|fail
 exact dY (.refl _)
theorem aQZ(e:Ent)(a:Stm)(H:AHeap)(i:Nat)(hi:hget H i=.cells 0 [.int .i64 a.c,.int .i64 a.r]):bD Tryz.prog 158 [dM e,.ref i 0 0] H (.bool (decide (e.op.at_=a))):=by
 refine fO Tryz.func158 ?_
 simp only[dM]
 have hi2:=fun L=>aG hi trivial L
 refine hH ?_
 exact dY (.of (by rw[aAv]))
theorem aPc(b1 b2:Bool)(g:Lg)(a:Stm)(H:AHeap):bD Tryz.prog 115 [qT b1 b2 g,stA a] H (.bool (fA g.entries a)):=by
 refine fO Tryz.func115 ?_
 have hh:=fun H i (hi:hget H i=.cells 0 [.int .i64 a.c,.int .i64 a.r])=>aM6 b1 g.entries (.func 158) [] [.ref i 0 0] (fun e=>decide (e.op.at_=a)) H (fun e=>.mk (first:=[]) (fun L=>aQZ e a (H++L) i (aG hi trivial L)) (cO))
 simp only[qT,stA]
 repeat' first|((first|refine aY (hh _ _ (by simp only[go_sem])) (cO) ?_|refine aZ (hh _ _ (by simp only[go_sem])) (cO) ?_|refine bA (fun _=>hh _ _ (by simp only[go_sem])) (cO) ?_|refine gS ?_);simp only[go_sem])|refine gA ?_|(refine gD (fun h=>?_) (fun h=>?_)<;>try exact aA h)|fail
 exact dY (.refl _)
theorem aJU(b1 b2:Bool)(g:Lg)(a:Stm)(H:AHeap):bD Tryz.prog 85 [qT b1 b2 g,stA a] H (.bool (fA g.entries a)):=by
 refine eR fun hok _=>?_
 have hl:=jB (aJi hok (.sl b1 (g.entries.map dM)) (by simp))
 rw[zAj]at hl
 refine fO Tryz.func85 ?_
 simp only[qT,stA]
 refine hG ?_
 refine aH (ι:=Nat) (fun i=>[(2,.ref H.length 0 0),(3,.ref (H.length+1) 0 0),(5,.int .i64 i)]) (fun _=>H++[.cells 0 [.sl b1 (g.entries.map dM),.sl b2 (g.nodes.map ndA)],.cells 0 [.int .i64 a.c,.int .i64 a.r]]) (fun i=>i≤g.entries.length∧∀x∈g.entries.take i,decide (x.op.at_=a)=false) (fun i=>g.entries.length-i) 0 ⟨zAn _,by simp⟩ ?_ rfl ?_
 ·simp[go_sem]
 ·rintro i ⟨hi,hno⟩
  by_cases hlt:i<g.entries.length
  ·have hp:=aJ dM hlt
   repeat' first|(refine gS ?_;simp only[go_sem,hp,dM])|refine gA ?_|(refine gD (fun h=>?_) (fun h=>?_)<;>try exact aA h)|fail
   ·rw[aAv]at h
    exact dY (.of (by
     have:fA g.entries a=true:=zBU.2 ⟨_,zAF hlt,h⟩
     rw[this]))
   ·rw[aAv]at h
    refine⟨i+1,⟨hlt,fun x hx=>?_⟩,by omega,zAp _ (aK hlt hl)⟩
    rw[zAa hlt,zAD]at hx
    rcases hx with hx|hx
    ·simpa using hno x hx
    ·simp only[zAx]at hx;subst hx;simpa using h
  ·have hi':i=g.entries.length:=by omega
   subst hi'
   repeat' first|(refine gS ?_;simp only[go_sem])|refine gA ?_|(refine gD (fun h=>?_) (fun h=>?_)<;>try exact aA h)|fail
   refine dY (.of ?_)
   rw[zAq]at hno
   have:fA g.entries a=false:=by
    rw[fA,zBK]
    intro x hx;rw[hno x hx];decide
   rw[this]
theorem aPd(a b:Ent):(decide (a.op=b.op)&&((a.undo.did==b.undo.did)&&((a.undo.had==b.undo.had)&&decide (a.undo.was=b.undo.was))))=decide (a=b):=by
 obtain⟨_,_,_,_⟩:=a
 obtain⟨_,_,_,_⟩:=b
 rw[zA8];simp
theorem aM8(b1 b2 b3 b4:Bool)(g k:Lg)(H:AHeap):bD Tryz.prog 17 [qT b1 b2 g,qT b3 b4 k] H (.bool (decide (g=k))):=by
 refine eR fun hok _=>?_
 have hl:=jB (aJi hok (.sl b1 (g.entries.map dM)) (by simp))
 rw[zAj]at hl
 refine fO Tryz.func17 ?_
 simp only[qT]
 repeat' first|(refine gS ?_;simp only[go_sem])|refine gA ?_|(refine gD (fun h=>?_) (fun h=>?_)<;>try exact aA h)|fail
 ·exact dY (.of (by rw[eT (fun e=>by subst e;simp at h)]))
 ·have hlen:g.entries.length=k.entries.length:=by simp at h;omega
  refine aH (ι:=Nat) (fun i=>[(2,.ref H.length 0 0),(3,.ref (H.length+1) 0 0),(5,.int .i64 i)]) (fun _=>H++[.cells 0 [.sl b1 (g.entries.map dM),.sl b2 (g.nodes.map ndA)],.cells 0 [.sl b3 (k.entries.map dM),.sl b4 (k.nodes.map ndA)]]) (fun i=>i≤g.entries.length∧g.entries.take i=k.entries.take i) (fun i=>g.entries.length-i) 0 ⟨zAn _,rfl⟩ ?_ rfl ?_
  ·simp[go_sem]
  ·rintro i ⟨hi,he⟩
   by_cases hlt:i<g.entries.length
   ·have hp:=aJ dM hlt
    have hq:=aJ dM (show i<k.entries.length by omega)
    repeat' first|(refine gS ?_;simp only[go_sem,hp,hq,dM])|refine gA ?_|(refine gD (fun h=>?_) (fun h=>?_)<;>try exact aA h)|fail
    ·rw[aGe,aGd,aPd]at h
     have hne:g.entries[i]≠k.entries[i]:=by simpa using h
     exact dY (.of (by rw[eT (fun e=>hne (by subst e;rfl))]))
    ·rw[aGe,aGd,aPd]at h
     have heq:g.entries[i]=k.entries[i]:=by simpa using h
     exact⟨i+1,⟨hlt,by rw[zAa hlt,zAa (by omega),he,heq]⟩,by omega,zAp _ (aK hlt hl)⟩
   ·have hi':i=g.entries.length:=by omega
    subst hi'
    repeat' first|((first|refine gQ (aGf _ _ _ _) ?_|refine gS ?_);simp only[go_sem])|refine gA ?_|(refine gD (fun h=>?_) (fun h=>?_)<;>try exact aA h)|fail
    refine dY (.of ?_)
    rw[zAq,hlen,zAq]at he
    obtain⟨ge,gn⟩:=g
    obtain⟨ke,kn⟩:=k
    simp only at he
    subst he
    congr 1
    rw[zA8];simp
end Go.Proofs.YtolbeecicikoaaaGreatDoor
