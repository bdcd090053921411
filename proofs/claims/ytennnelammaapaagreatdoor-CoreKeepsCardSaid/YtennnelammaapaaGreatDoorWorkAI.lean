/- What the functions of this seat answer (9 of 38). No condition. -/
import Derived.Test.YtennnelammaapaaGreatDoorWorkAH
import Derived.Laws.Bits64
set_option linter.unusedSimpArgs false
set_option linter.unusedVariables false
set_option maxRecDepth 100000
set_option maxHeartbeats 16000000
namespace Go.Proofs.YtennnelammaapaaGreatDoor
section
theorem aIh{i n:Nat}(h:i<n)(hn:n≤9223372036854775807):IntKind.i64.wrap ((i:Int)-1)=(i:Int)-1:=wI
theorem aFp(i:Nat):((i:Int)-1).toNat=i-1:=by omega
theorem aS{i n:Nat}(h:i<n)(hn:n≤9223372036854775807):IntKind.i64.wrap ((i:Int)+1)=((i+1:Nat):Int):=by rw[wI];rfl
theorem jK(b:Bool)(l:List Nd)(H:AHeap):bH Tryz.prog 43 [.sl b (l.map ndA)] H (.bool (chk l)):=by
 refine aAj fun hok=>?_
 have hl:=jQ hok;rw[zAn]at hl;refine fO Tryz.func43 ?_;refine hG ?_;refine aI (ι:=Nat×AHeap) (fun x=>[(0,.sl b (l.map ndA)),(8,.sl b (l.map ndA)),(9,.int .i64 l.length),(10,.int .i64 x.1)]) (fun x=>H++x.2) (fun x=>x.1≤l.length∧chk l=aBJ (pS l x.1) (l.drop x.1)) (fun x=>l.length-x.1) (0,[]) ⟨zAo _,rfl⟩ ?_ (by simp) ?_
 ·simp[go_sem]
 ·rintro⟨i,L⟩ ⟨hi,he⟩;simp only at hi he ⊢;generalize hG:H++L=G;by_cases hlt:i<l.length
  ·have hp:=aN ndA hlt;have hq:=aN ndA (show i-1<l.length by omega)
   have hw:=aIh hlt hl;have ht:=aFp i;rw[aIb hlt]at he;repeat' first|((first|refine gQ (aCP _) ?_|refine gS ?_);simp only[go_sem,hp,hq,hw,ht,ndA])|refine gA ?_|(refine gD ?_ ?_<;>intro h<;>try exact aA h)|fail
   ·refine aJQ hG (by simp only[go_sem]) (.of ?_)
    have h2:(fE l[i].id&& !(decide ((0:Int)<(i:Int))&&decide (l[i].id≤l[i-1].id)))=false:=by rw[←zA4,Bool.not_and,Bool.not_not];exact h
    rw[he,h2];rfl
   ·have h2:(fE l[i].id&& !(decide ((0:Int)<(i:Int))&&decide (l[i].id≤l[i-1].id)))=true:=by rw[←Bool.not_eq_false',Bool.not_and,Bool.not_not];exact h
    rw[h2,zAN]at he;exact⟨(i+1,_),⟨hlt,he⟩,by simp only;omega,zAx _ (aS hlt hl),aVq hG⟩
  ·have hi':i=l.length:=by omega
   subst hi';repeat' first|(refine gS ?_;simp only[go_sem])|refine gA ?_|(refine gD ?_ ?_<;>intro h<;>try exact aA h)|fail
   refine oF hG (by simp only[go_sem]) (.of ?_)
   rw[he,zBp];rfl
def aBM(a b:Int):Int:=if a<b then-1 else if b<a then 1 else 0
theorem aVC(a:Int)(H:AHeap):bH Tryz.prog 83 [.int .i64 a] H (.bool false):=by
 refine fO Tryz.func83 ?_;refine hG ?_;exact cL (.of (by simp))
theorem aVD(a b:Int)(H:AHeap):bH Tryz.prog 63 [.int .i64 a,.int .i64 b] H (.int .i64 (aBM a b)):=by
 refine fO Tryz.func63 ?_;repeat' first|((first|refine gQ (aVC _) ?_|refine gS ?_);simp only[go_sem])|refine gA ?_|(refine gD ?_ ?_<;>intro h<;>try exact aA h)|fail
 all_goals(simp only[zAF,zA1]at *)
 ·exact cL (.of (by rw[aBM,zAl h]))
 ·exact cL (.of (by rw[aBM,zAe (by assumption),zAl h]))
 ·exact cL (.of (by rw[aBM,zAe (by assumption),zAe h]))
theorem aR5(n:Nd)(id:Int)(H:AHeap):bH Tryz.prog 62 [ndA n,.int .i64 id] H (.int .i64 (aBM n.id id)):=by
 refine fO Tryz.func62 ?_;simp only[ndA];repeat' first|((first|refine gQ (aVD _ _) ?_|refine gS ?_);simp only[go_sem])|refine gA ?_|(refine gD ?_ ?_<;>intro h<;>try exact aA h)|fail
 exact dY (.refl _)
theorem aR6{i j n:Nat}(hi:i≤j)(hj:j≤n)(hn:n≤9223372036854775807):
  IntKind.i64.wrap ((IntKind.u64.wrap (IntKind.i64.wrap ((i:Int)+(j:Int)))).fdiv (2 ^ min 1 64))=(((i+j) / 2:Nat):Int):=by
 have e1:IntKind.u64.wrap (IntKind.i64.wrap ((i:Int)+(j:Int)))=(i:Int)+(j:Int):=by
  rw[IntKind.wrap_i64,IntKind.wrap_u64];omega
 have e2:(2:Int) ^ min 1 64=2:=by decide
 rw[e1,e2,Int.fdiv_eq_ediv_of_nonneg _ (by omega),wI]
 omega
theorem aXD(b:Bool)(l:List Nd)(id:Int)(fn:Fn)(fs cs:List AV)(hs:chk l=true)(H:AHeap)(hf:∀n:Nd,FnV Tryz.prog (.func fn fs cs) [ndA n,.int .i64 id] H (.int .i64 (aBM n.id id))):
  bH Tryz.prog 61 [.sl b (l.map ndA),.int .i64 id,.func fn fs cs] H (.tup [.int .i64 (pos l id),.bool (had l id)]):=by
 refine aNK fun hok _ _=>?_
 have hl:=jQ hok;rw[zAn]at hl;have hpw:=((nH l).1 hs).2;rw[zBR]at hpw;simp only[ndA]at hf;refine fO Tryz.func61 ?_;refine hG ?_;refine aI (ι:=Nat×Nat) (fun x=>[(0,.sl b (l.map ndA)),(1,.int .i64 id),(2,.func fn fs cs),(8,.int .i64 l.length),(9,.int .i64 x.1),(10,.int .i64 x.2)]) (fun x=>H)
  (fun x=>x.1≤x.2∧x.2≤l.length∧(∀k (h:k<l.length),k<x.1→l[k].id<id)∧∀k (h:k<l.length),x.2≤k→¬l[k].id<id) (fun x=>x.2-x.1) (0,l.length) ⟨zAo _,zAf _,fun k _ h=>by simp at h,fun k h h2=>by simp at h2;omega⟩ ?_ rfl ?_
 ·simp[go_sem]
 ·rintro⟨i,j⟩ ⟨hi,hj,h1,h2⟩;simp only at hi hj h1 h2 ⊢;by_cases hlt:i<j
  ·have hm:=aR6 hi hj hl;have hml:(i+j) / 2<l.length:=by omega
   have hp:=aN ndA hml;repeat' first|(refine gS ?_;simp only[go_sem,hm,hp,ndA])|refine gA ?_|(refine gD ?_ ?_<;>intro h<;>try exact aA h)|fail
   refine kU (hf _) ?_;simp only[go_sem,hm,hp,ndA];repeat' first|refine hH ?_|(refine gD ?_ ?_<;>intro h<;>try exact aA h)|fail
   ·have hc:l[(i+j) / 2].id<id:=by
     have h':=zAQ h;unfold aBM at h';repeat' split at h'
     all_goals omega
    refine⟨((i+j) / 2+1,j),⟨by simp only;omega,hj,fun k hk hk2=>?_,h2⟩,by simp only;omega,zAx _ (aS hml hl),rfl⟩
    simp only at hk2;rcases zCk k ((i+j) / 2)with hk3|hk3
    ·exact Int.lt_trans (hpw k _ hk hml hk3) hc
    ·obtain rfl:k=(i+j) / 2:=by omega
     exact hc
   ·have hc:¬l[(i+j) / 2].id<id:=by
     have h':=of_decide_eq_false h;unfold aBM at h';repeat' split at h'
     all_goals omega
    refine⟨(i,(i+j) / 2),⟨by simp only;omega,by simp only;omega,h1,fun k hk hk2=>?_⟩,by simp only;omega,rfl,rfl⟩
    simp only at hk2;rcases zCk ((i+j) / 2) k with hk3|hk3
    ·have:=hpw _ k hml hk hk3;omega
    ·obtain rfl:k=(i+j) / 2:=by omega
     exact hc
  ·have hi':i=j:=by omega
   subst hi';have hpos:=aR4 hj (fun k hk=>h1 k (by omega) hk) (fun h=>h2 i h (zAf _))
   by_cases hlt2:i<l.length
   ·have hp:=aN ndA hlt2;repeat' first|(refine gS ?_;simp only[go_sem,hp,ndA])|refine gA ?_|(refine gD ?_ ?_<;>intro h<;>try exact aA h)|fail
    have hf0:=fun n=>(hf n) []
    simp only[zAd]at hf0;refine⟨_,fun _=>hf0 _,?_⟩
    simp only[go_sem,hp,ndA];refine hH ?_;refine cL (.of ?_);rw[pU hs,hpos,zAb hlt2];have e1:decide ((i:Int)<(l.length:Int))=true:=by simpa using hlt2
    have e2:decide (aBM l[i].id id=0)=decide (l[i].id=id):=by
     unfold aBM;rcases Int.lt_trichotomy l[i].id id with q|q|q
     ·rw[zAl q,zAg (show ¬l[i].id=id by omega)];rfl
     ·rw[zAe (by omega),zAe (by omega),zAj q];rfl
     ·rw[zAe (by omega),zAl q,zAg (show ¬l[i].id=id by omega)];rfl
    rw[e1,e2];rfl
   ·refine hH ?_;have e1:decide ((i:Int)<(l.length:Int))=false:=by simpa using hlt2
    refine⟨.int .i64 1,fun hg=>?_,?_⟩
    ·rw[e1]at hg;cases hg
    simp only[go_sem];refine hG ?_;refine cL (.of ?_);rw[pU hs,hpos,zBt (by omega),e1];rfl
theorem aAq(b:Bool)(l:List Nd)(id:Int)(hs:chk l=true)(H:AHeap):bH Tryz.prog 44 [.sl b (l.map ndA),.int .i64 id] H (.tup [.int .i64 (pos l id),.bool (had l id)]):=by
 refine fO Tryz.func44 ?_;have hbs:=aXD b l id (.func 62) [] [] hs H fun n=>.mk (first:=[]) (cap:=[]) (fun L=>aR5 n id (H++L)) (cO)
 repeat' first|((first|refine aZ (hbs) (cO) ?_|refine bA (hbs) (cO) ?_|refine bB (fun _=>hbs) (cO) ?_|refine gS ?_);simp only[go_sem])|refine gA ?_|(refine gD ?_ ?_<;>intro h<;>try exact aA h)|fail
 exact cL (.refl _)
def ndV(r:Option Nd):AV:=.tup [ndA (r.getD nd0),.bool r.isSome]
theorem aR7(b:Bool)(l:List Nd)(id:Int)(H:AHeap):bH Tryz.prog 23 [.sl b (l.map ndA),.int .i64 id] H (ndV (findI l id)):=by
 refine fO Tryz.func23 ?_;unfold findI;cases hs:chk l with
 |false=>
  repeat' first|((first|refine gQ (jK _ _) ?_|refine gS ?_);simp only[go_sem,hs])|refine gA ?_|(refine gD ?_ ?_<;>intro h<;>try exact aA h)|fail
  exact dY (.refl _)
 |true=>
  have hpl:=aAq b l id hs;cases hh:had l id with
  |false=>
   repeat' first|((first|refine gQ (jK _ _) ?_|refine gS ?_);simp only[go_sem,hs,hh])|refine gA ?_|(refine gD ?_ ?_<;>intro h<;>try exact aA h)|fail
   rw[aCR hh];exact dY (.refl _)
  |true=>
   have hlt:=mJ hs hh;have hp:=aN ndA hlt;rw[aAn hs hh];repeat' first|((first|refine gQ (jK _ _) ?_|refine gS ?_);simp only[go_sem,hs,hh,hp,ndA])|refine gA ?_|(refine gD ?_ ?_<;>intro h<;>try exact aA h)|fail
   exact dY (.refl _)
end
section
def vN:List Pl:=[.pure 0,.pure 0,.pure 0,.pure 0,.pure 0,.pure 0,.free,.eff [false,false,false,false,false,false]]
attribute [go_sem] vN
theorem iW(l:List Ent):∀e∈l.map iB,e.cells.length=17:=fun e he=>by
 obtain⟨x,_,rfl⟩:=zAm.1 he;rfl
theorem iE(l:List Ent):(∀e∈l.map iB,e.cells.length=17)=True:=zAC (iW l)
theorem tT(l:List Ent):∀e∈l.map iB,Pur e:=fun e he=>by
 obtain⟨x,_,rfl⟩:=zAm.1 he;first|exact(by simp only[go_sem])|(simp only[iB];exact(by simp only[go_sem]))
theorem aIi(b:Bool)(l:List Ent)(hl:l.length≤1073741824)(H:AHeap):bH Tryz.prog 223 [.sl b (l.map iB)] H (.sl false (l.map iB)):=by
 refine fO Tryz.func223 ?_;refine hG ?_;intro c hc;cases c with
 |true=>
  have hnil:l=[]:=by
   cases l with
   |nil=>rfl
   |cons x l=>exact absurd (hc (by simp)) (by decide)
  subst hnil;refine hG ?_;exact cL (.sl _ _)
 |false=>
  clear hc;refine hK @iE ?_;exact iU (cs:=List.flatMap AV.cells (List.map iB l)) (es:=l.map iB) (rest:=[]) (zAf _) (by simp only[go_sem]) (zAd _).symm (by rw[zAn]) (iW _) (tT _) rfl
theorem qQ(l:List Nd):∀e∈l.map ndA,e.cells.length=8:=fun e he=>by
 obtain⟨x,_,rfl⟩:=zAm.1 he;rfl
theorem xQ(l:List Nd):(∀e∈l.map ndA,e.cells.length=8)=True:=zAC (qQ l)
theorem aBN(l:List Nd):∀e∈l.map ndA,Pur e:=fun e he=>by
 obtain⟨x,_,rfl⟩:=zAm.1 he;first|exact(by simp only[go_sem])|(simp only[ndA];exact(by simp only[go_sem]))
theorem aIj(b:Bool)(l:List Nd)(hl:l.length≤1073741824)(H:AHeap):bH Tryz.prog 157 [.sl b (l.map ndA)] H (.sl false (l.map ndA)):=by
 refine fO Tryz.func157 ?_;refine hG ?_;intro c hc;cases c with
 |true=>
  have hnil:l=[]:=by
   cases l with
   |nil=>rfl
   |cons x l=>exact absurd (hc (by simp)) (by decide)
  subst hnil;refine hG ?_;exact cL (.sl _ _)
 |false=>
  clear hc;refine hK @xQ ?_;exact iU (cs:=List.flatMap AV.cells (List.map ndA l)) (es:=l.map ndA) (rest:=[]) (zAf _) (by simp only[go_sem]) (zAd _).symm (by rw[zAn]) (qQ _) (aBN _) rfl
theorem aD3(b:Bool)(l:List Ent)(fn:Fn)(fs cs:List AV)(p:Ent→Bool)(H:AHeap)(hf:∀c,FnV Tryz.prog (.func fn fs cs) [iB c] H (.bool (p c))):
  bH Tryz.prog 209 [.sl b (l.map iB),.func fn fs cs] H (.int .i64 (cQ p l)):=by
 refine fP fun hok _=>?_
 have hl:=jQ hok;rw[zAn]at hl;simp only[iB]at hf;refine fO Tryz.func209 ?_;refine hG ?_;refine aI (ι:=Nat) (fun i=>[(0,.sl b (l.map iB)),(1,.func fn fs cs),(7,.int .i64 l.length),(8,.int .i64 i)]) (fun _=>H) (fun i=>i≤l.length∧∀k (hk:k<i) (hk2:k<l.length),p l[k]=false) (fun i=>l.length-i) 0 ⟨zAo _,fun k hk=>by omega⟩ ?_ rfl ?_
 ·simp[go_sem]
 ·rintro i ⟨hi,hno⟩;by_cases hlt:i<l.length
  ·have hp:=aN iB hlt;repeat' first|(refine gS ?_;simp only[go_sem,hp,iB])|refine gA ?_|(refine gD ?_ ?_<;>intro h<;>try exact aA h)|fail
   refine kU (hf _) ?_;simp only[go_sem];repeat' first|refine hG ?_|(refine gD ?_ ?_<;>intro h<;>try exact aA h)|fail
   ·exact cL (.of (by rw[eV p l i hlt (fun k hk=>hno k hk (by omega)) h]))
   ·refine⟨i+1,⟨hlt,fun k hk hk2=>?_⟩,by omega,by rw[wI];rfl⟩
    by_cases e:k=i
    ·subst e;exact h
    ·exact hno k (by omega) hk2
  ·have hi':i=l.length:=by omega
   repeat' first|(refine gS ?_;simp only[go_sem])|refine gA ?_|(refine gD ?_ ?_<;>intro h<;>try exact aA h)|fail
   subst hi';exact cL (.of (by rw[eW p l fun k hk=>hno k hk hk]))
theorem aN5(b:Bool)(l:List Ent)(fn:Fn)(fs cs:List AV)(p:Ent→Bool)(H:AHeap)(hf:∀c,FnV Tryz.prog (.func fn fs cs) [iB c] H (.bool (p c))):
  bH Tryz.prog 190 [.sl b (l.map iB),.func fn fs cs] H (.bool (l.any p)):=by
 refine fO Tryz.func190 ?_;have hx:=aD3 b l fn fs cs p H hf;repeat' first|((first|refine aZ (hx) (cO) ?_|refine bA (hx) (cO) ?_|refine bB (fun _=>hx) (cO) ?_|refine gS ?_);simp only[go_sem])|refine gA ?_|(refine gD ?_ ?_<;>intro h<;>try exact aA h)|fail
 exact cL (.of (by rw[jW]))
theorem aN6(b1 b2:Bool)(g:Lg)(h1:g.entries.length≤1073741824)(h2:g.nodes.length≤1073741824)(H:AHeap):bH Tryz.prog 210 [lgF b1 b2 g] H (lgA g):=by
 refine fO Tryz.func210 ?_;have hc1:=aIi b1 g.entries h1;have hc2:=aIj b2 g.nodes h2;simp only[lgF];repeat' first|((first|refine mx [1] vN ?_|refine gS ?_);simp only[go_sem])|refine gA ?_|(refine gD ?_ ?_<;>intro h<;>try exact aA h)|fail
 exact dY (.refl _)
theorem aR8(e:Ent)(a:Stm)(H:AHeap)(i:Nat)(hi:hget H i=.cells 0 [.int .i64 a.c,.int .i64 a.r]):bH Tryz.prog 191 [iB e,.ref i 0 0] H (.bool (decide (e.op.at_=a))):=by
 refine fO Tryz.func191 ?_;simp only[iB];have hi2:=fun L=>aD hi trivial L
 refine hH ?_;exact dY (.of (by rw[aJZ]))
theorem aQs(b1 b2:Bool)(g:Lg)(a:Stm)(H:AHeap):bH Tryz.prog 171 [lgF b1 b2 g,stA a] H (.bool (lO g.entries a)):=by
 refine fO Tryz.func171 ?_;have hh:=fun H i (hi:hget H i=.cells 0 [.int .i64 a.c,.int .i64 a.r])=>aN5 b1 g.entries (.func 191) [] [.ref i 0 0] (fun e=>decide (e.op.at_=a)) H (fun e=>.mk (first:=[]) (fun L=>aR8 e a (H++L) i (aD hi trivial L)) (cO))
 simp only[lgF,stA];repeat' first|((first|refine aZ (hh _ _ (by simp only[go_sem])) (cO) ?_|refine bA (hh _ _ (by simp only[go_sem])) (cO) ?_|refine bB (fun _=>hh _ _ (by simp only[go_sem])) (cO) ?_|refine gS ?_);simp only[go_sem])|refine gA ?_|(refine gD ?_ ?_<;>intro h<;>try exact aA h)|fail
 exact dY (.refl _)
end
end Go.Proofs.YtennnelammaapaaGreatDoor
