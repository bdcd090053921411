/- What the functions of this seat answer (11 of 40). No condition. -/
import Derived.Test.YtigedpfipifefaaGreatDoorWorkAJ
import Derived.Laws.Bits64
set_option linter.unusedSimpArgs false
set_option linter.unusedVariables false
set_option maxRecDepth 100000
set_option maxHeartbeats 16000000
namespace Go.Proofs.YtigedpfipifefaaGreatDoor
theorem aBM{i n:Nat}(h:i<n)(hn:n≤9223372036854775807):IntKind.i64.wrap ((i:Int)-1)=(i:Int)-1:=wI
theorem zW(i:Nat):((i:Int)-1).toNat=i-1:=by omega
theorem cA{i n:Nat}(h:i<n)(hn:n≤9223372036854775807):IntKind.i64.wrap ((i:Int)+1)=((i+1:Nat):Int):=by rw[wI];rfl
theorem aHA(b:Bool)(l:List Nd)(H:AHeap):bJ Tryz.prog 63 [.sl b (l.map ndA)] H (.bool (chk l)):=by
 refine aAP fun hok=>?_
 have hl:=tA hok;rw[zAs]at hl;refine fO Tryz.func63 ?_;refine hG ?_;refine aH (ι:=Nat×AHeap) (fun x=>[(0,.sl b (l.map ndA)),(8,.sl b (l.map ndA)),(9,.int .i64 l.length),(10,.int .i64 x.1)]) (fun x=>H++x.2) (fun x=>x.1≤l.length∧chk l=sK (jY l x.1) (l.drop x.1)) (fun x=>l.length-x.1) (0,[]) ⟨zAv _,rfl⟩ ?_ (by simp) ?_
 ·simp[go_sem]
 ·rintro⟨i,L⟩ ⟨hi,he⟩;simp only at hi he ⊢;generalize hG:H++L=G;by_cases hlt:i<l.length
  ·have hp:=bO ndA hlt;have hq:=bO ndA (show i-1<l.length by omega)
   have hw:=aBM hlt hl;have ht:=zW i;rw[aBK hlt]at he;repeat' first|((first|refine gQ (aMk _) ?_|refine gS ?_);simp only[go_sem,hp,hq,hw,ht,ndA])|refine gA ?_|(refine gD ?_ ?_<;>intro h<;>try exact aD h)|fail
   ·refine aL9 hG (by simp only[go_sem]) (.of ?_)
    have h2:(iC l[i].id&& !(decide ((0:Int)<(i:Int))&&decide (l[i].id≤l[i-1].id)))=false:=by rw[←Bool.not_eq_true',Bool.not_and,Bool.not_not];exact h
    rw[he,h2];rfl
   ·have h2:(iC l[i].id&& !(decide ((0:Int)<(i:Int))&&decide (l[i].id≤l[i-1].id)))=true:=by rw[←Bool.not_eq_false',Bool.not_and,Bool.not_not];exact h
    rw[h2,zAE]at he;exact⟨(i+1,_),⟨hlt,he⟩,by simp only;omega,zA5 _ (cA hlt hl),aMa hG⟩
  ·have hi':i=l.length:=by omega
   subst hi';repeat' first|(refine gS ?_;simp only[go_sem])|refine hU ?_|fail
   refine aIS hG (by simp only[go_sem]) (.of ?_)
   rw[he,List.drop_length];rfl
def sM(a b:Int):Int:=if a<b then-1 else if b<a then 1 else 0
theorem aMv(a:Int)(H:AHeap):bJ Tryz.prog 216 [.int .i64 a] H (.bool false):=by
 refine fO Tryz.func216 ?_;refine hG ?_;exact cU (.of (by simp))
theorem aMw(a b:Int)(H:AHeap):bJ Tryz.prog 180 [.int .i64 a,.int .i64 b] H (.int .i64 (sM a b)):=by
 refine fO Tryz.func180 ?_;repeat' first|((first|refine gQ (aMv _) ?_|refine gS ?_);simp only[go_sem])|refine gA ?_|(refine gD ?_ ?_<;>intro h<;>try exact aD h)|fail
 all_goals(simp only[zAz,zA2]at *)
 ·exact cU (.of (by rw[sM,zAp h]))
 ·exact cU (.of (by rw[sM,zAk (by assumption),zAp h]))
 ·exact cU (.of (by rw[sM,zAk (by assumption),zAk h]))
theorem aJf(n:Nd)(id:Int)(H:AHeap):bJ Tryz.prog 179 [ndA n,.int .i64 id] H (.int .i64 (sM n.id id)):=by
 refine fO Tryz.func179 ?_;simp only[ndA];repeat' first|((first|refine gQ (aMw _ _) ?_|refine gS ?_);simp only[go_sem])|refine hU ?_|fail
 exact dY (.refl _)
theorem aJg{i j n:Nat}(hi:i≤j)(hj:j≤n)(hn:n≤9223372036854775807):
  IntKind.i64.wrap ((IntKind.u64.wrap (IntKind.i64.wrap ((i:Int)+(j:Int)))).fdiv (2 ^ min 1 64))=(((i+j) / 2:Nat):Int):=by
 have e1:IntKind.u64.wrap (IntKind.i64.wrap ((i:Int)+(j:Int)))=(i:Int)+(j:Int):=by
  rw[IntKind.wrap_i64,IntKind.wrap_u64];omega
 have e2:(2:Int) ^ min 1 64=2:=by decide
 rw[e1,e2,zBk _ (by omega),wI]
 omega
theorem aOp(b:Bool)(l:List Nd)(id:Int)(fn:Fn)(fs cs:List AV)(hs:chk l=true)(H:AHeap)(hf:∀n:Nd,FnV Tryz.prog (.func fn fs cs) [ndA n,.int .i64 id] H (.int .i64 (sM n.id id))):
  bJ Tryz.prog 178 [.sl b (l.map ndA),.int .i64 id,.func fn fs cs] H (.tup [.int .i64 (pos l id),.bool (had l id)]):=by
 refine aFJ fun hok _ _=>?_
 have hl:=tA hok;rw[zAs]at hl;have hpw:=((uX l).1 hs).2;rw[zBz]at hpw;simp only[ndA]at hf;refine fO Tryz.func178 ?_;refine hG ?_;refine aH (ι:=Nat×Nat) (fun x=>[(0,.sl b (l.map ndA)),(1,.int .i64 id),(2,.func fn fs cs),(8,.int .i64 l.length),(9,.int .i64 x.1),(10,.int .i64 x.2)]) (fun x=>H)
  (fun x=>x.1≤x.2∧x.2≤l.length∧(∀k (h:k<l.length),k<x.1→l[k].id<id)∧∀k (h:k<l.length),x.2≤k→¬l[k].id<id) (fun x=>x.2-x.1) (0,l.length) ⟨zAv _,zAb _,fun k _ h=>by simp at h,fun k h h2=>by simp at h2;omega⟩ ?_ rfl ?_
 ·simp[go_sem]
 ·rintro⟨i,j⟩ ⟨hi,hj,h1,h2⟩;simp only at hi hj h1 h2 ⊢;by_cases hlt:i<j
  ·have hm:=aJg hi hj hl;have hml:(i+j) / 2<l.length:=by omega
   have hp:=bO ndA hml;repeat' first|(refine gS ?_;simp only[go_sem,hm,hp,ndA])|refine hU ?_|fail
   refine wL (hf _) ?_;simp only[go_sem,hm,hp,ndA];repeat' first|refine hH ?_|(refine gD ?_ ?_<;>intro h<;>try exact aD h)|fail
   ·have hc:l[(i+j) / 2].id<id:=by
     have h':=zAB h;unfold sM at h';repeat' split at h'
     all_goals omega
    refine⟨((i+j) / 2+1,j),⟨by simp only;omega,hj,fun k hk hk2=>?_,h2⟩,by simp only;omega,zA5 _ (cA hml hl),rfl⟩
    simp only at hk2;rcases Nat.lt_or_ge k ((i+j) / 2)with hk3|hk3
    ·exact Int.lt_trans (hpw k _ hk hml hk3) hc
    ·obtain rfl:k=(i+j) / 2:=by omega
     exact hc
   ·have hc:¬l[(i+j) / 2].id<id:=by
     have h':=of_decide_eq_false h;unfold sM at h';repeat' split at h'
     all_goals omega
    refine⟨(i,(i+j) / 2),⟨by simp only;omega,by simp only;omega,h1,fun k hk hk2=>?_⟩,by simp only;omega,rfl,rfl⟩
    simp only at hk2;rcases Nat.lt_or_ge ((i+j) / 2) k with hk3|hk3
    ·have:=hpw _ k hml hk hk3;omega
    ·obtain rfl:k=(i+j) / 2:=by omega
     exact hc
  ·have hi':i=j:=by omega
   subst hi';have hpos:=aI9 hj (fun k hk=>h1 k (by omega) hk) (fun h=>h2 i h (zAb _))
   by_cases hlt2:i<l.length
   ·have hp:=bO ndA hlt2;repeat' first|(refine gS ?_;simp only[go_sem,hp,ndA])|refine hU ?_|fail
    have hf0:=fun n=>(hf n) []
    simp only[zAj]at hf0;refine⟨_,fun _=>hf0 _,?_⟩
    simp only[go_sem,hp,ndA];refine hH ?_;refine cU (.of ?_);rw[pU hs,hpos,zAd hlt2];have e1:decide ((i:Int)<(l.length:Int))=true:=by simpa using hlt2
    have e2:decide (sM l[i].id id=0)=decide (l[i].id=id):=by
     unfold sM;rcases Int.lt_trichotomy l[i].id id with q|q|q
     ·rw[zAp q,zAh (show ¬l[i].id=id by omega)];rfl
     ·rw[zAk (by omega),zAk (by omega),zAg q];rfl
     ·rw[zAk (by omega),zAp q,zAh (show ¬l[i].id=id by omega)];rfl
    rw[e1,e2];rfl
   ·refine hH ?_;have e1:decide ((i:Int)<(l.length:Int))=false:=by simpa using hlt2
    refine⟨.int .i64 1,fun hg=>?_,?_⟩
    ·rw[e1]at hg;cases hg
    simp only[go_sem];refine hG ?_;refine cU (.of ?_);rw[pU hs,hpos,zBq (by omega),e1];rfl
theorem aF8(b:Bool)(l:List Nd)(id:Int)(hs:chk l=true)(H:AHeap):bJ Tryz.prog 149 [.sl b (l.map ndA),.int .i64 id] H (.tup [.int .i64 (pos l id),.bool (had l id)]):=by
 refine fO Tryz.func149 ?_;have hbs:=aOp b l id (.func 179) [] [] hs H fun n=>.mk (first:=[]) (cap:=[]) (fun L=>aJf n id (H++L)) (cO)
 repeat' first|((first|refine cS (hbs) (cO) ?_|refine dB (hbs) (cO) ?_|refine dE (fun _=>hbs) (cO) ?_|refine gS ?_);simp only[go_sem])|refine hU ?_|fail
 exact cU (.refl _)
end Go.Proofs.YtigedpfipifefaaGreatDoor
