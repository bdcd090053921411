/- The texts 10 of 51 beneath the rows of this seat (joined by program): the abstract machine, and what the functions answer. No condition. -/
import Derived.Test.YthhdnjiodklmmaaGreatDoorWorkAI
import Derived.Laws.Bits64
set_option linter.unusedSimpArgs false
set_option linter.unusedVariables false
set_option linter.unusedSectionVars false
/- What the functions of the tree answer: Check, place, Find, above. No condition. -/
namespace Go.Proofs.YthhdnjiodklmmaaGreatDoor
open Go Go.Aw Go.Gw
set_option linter.unusedSimpArgs false
set_option maxRecDepth 20000
theorem aG9{i n:Nat}(h:i<n)(hn:n≤9223372036854775807):IntKind.i64.wrap ((i:Int)-1)=(i:Int)-1:=wrap_i64 (by omega) (by omega)
theorem aEO(i:Nat):((i:Int)-1).toNat=i-1:=by omega
theorem bD{i n:Nat}(h:i<n)(hn:n≤9223372036854775807):IntKind.i64.wrap ((i:Int)+1)=((i+1:Nat):Int):=by rw[wrap_i64 (by omega) (by omega)];rfl
theorem bR(b:Bool)(l:List Nd)(H:AHeap):cJ Tryz.prog 41 [.sl b (l.map ndA)] H (.bool (chk l)):=by
 refine aFB fun hok=>?_
 have hl:=lK hok
 rw[List.length_map]at hl
 refine aL Tryz.func41 rfl (Nat.le_of_ble_eq_true rfl) ?_
 repeat' first|(refine gS ?_;simp only[go_sem])|refine gA ?_|(refine gD (fun h=>?_) (fun h=>?_)<;>try exact aA h)|fail
 refine aP (ι:=Nat×AHeap) (fun x=>[(0,.sl b (l.map ndA)),(8,.sl b (l.map ndA)),(9,.int .i64 l.length),(10,.int .i64 x.1)]) (fun x=>H++x.2) (fun x=>x.1≤l.length∧chk l=aBc (oX l x.1) (l.drop x.1)) (fun x=>l.length-x.1) (0,[]) ⟨Nat.zero_le _,rfl⟩ ?_ (by simp) ?_
 ·simp[go_sem]
 ·rintro⟨i,L⟩ ⟨hi,he⟩
  simp only at hi he ⊢
  generalize hG:H++L=G
  by_cases hlt:i<l.length
  ·have hp:=bA ndA hlt
   have hq:=bA ndA (show i-1<l.length by omega)
   have hw:=aG9 hlt hl
   have ht:=aEO i
   rw[aG2 hlt]at he
   repeat' first|((first|refine cK (ct (kU _) bO) ?_|refine cP (ct (kU _) bO) ?_|refine cM (ct (kU _) bO) ?_|refine gS ?_);simp only[go_sem,hp,hq,hw,ht,ndA])|refine gA ?_|(refine gD (fun h=>?_) (fun h=>?_)<;>try exact aA h)|fail
   ·refine aIC hG (by simp only[go_sem]) (.of ?_)
    have h2:(fV l[i].id&& !(decide ((0:Int)<(i:Int))&&decide (l[i].id≤l[i-1].id)))=false:=by rw[←Bool.not_eq_true',Bool.not_and,Bool.not_not];exact h
    rw[he,h2];rfl
   ·have h2:(fV l[i].id&& !(decide ((0:Int)<(i:Int))&&decide (l[i].id≤l[i-1].id)))=true:=by rw[←Bool.not_eq_false',Bool.not_and,Bool.not_not];exact h
    rw[h2,Bool.true_and]at he
    exact⟨(i+1,_),⟨hlt,he⟩,by simp only;omega,congrArg _ (bD hlt hl),aTU hG⟩
  ·have hi':i=l.length:=by omega
   subst hi'
   repeat' first|(refine gS ?_;simp only[go_sem])|refine gA ?_|(refine gD (fun h=>?_) (fun h=>?_)<;>try exact aA h)|fail
   refine sI hG (by simp only[go_sem]) (.of ?_)
   rw[he,List.drop_length];rfl
def aBf(a b:Int):Int:=if a<b then-1 else if b<a then 1 else 0
theorem aJi(a:Int)(H:AHeap):cJ Tryz.prog 215 [.int .i64 a] H (.bool false):=by
 refine aL Tryz.func215 rfl (Nat.le_of_ble_eq_true rfl) ?_
 repeat' first|(refine gS ?_;simp only[go_sem])|refine gA ?_|(refine gD (fun h=>?_) (fun h=>?_)<;>try exact aA h)|fail
 exact aY (by simp only[go_sem]) (.of (by simp))
theorem aJj(a b:Int)(H:AHeap):cJ Tryz.prog 196 [.int .i64 a,.int .i64 b] H (.int .i64 (aBf a b)):=by
 refine aL Tryz.func196 rfl (Nat.le_of_ble_eq_true rfl) ?_
 repeat' first|((first|refine cK (ct (aJi _) sW) ?_|refine cP (ct (aJi _) sW) ?_|refine cM (ct (aJi _) sW) ?_|refine gS ?_);simp only[go_sem])|refine gA ?_|(refine gD (fun h=>?_) (fun h=>?_)<;>try exact aA h)|fail
 all_goals(simp only[decide_eq_true_eq,decide_eq_false_iff_not]at *)
 ·exact aY (by simp only[go_sem]) (.of (by rw[aBf,if_pos h]))
 ·exact aY (by simp only[go_sem]) (.of (by rw[aBf,if_neg (by assumption),if_pos h]))
 ·exact aY (by simp only[go_sem]) (.of (by rw[aBf,if_neg (by assumption),if_neg h]))
theorem aQj(n:Nd)(id:Int)(H:AHeap):cJ Tryz.prog 195 [ndA n,.int .i64 id] H (.int .i64 (aBf n.id id)):=by
 refine aL Tryz.func195 rfl (Nat.le_of_ble_eq_true rfl) ?_
 simp only[ndA]
 repeat' first|((first|refine cK (ct (aJj _ _) sR) ?_|refine cP (ct (aJj _ _) sR) ?_|refine cM (ct (aJj _ _) sR) ?_|refine gS ?_);simp only[go_sem])|refine gA ?_|(refine gD (fun h=>?_) (fun h=>?_)<;>try exact aA h)|fail
 exact done (by simp only[go_sem]) (.refl _)
theorem aQk{i j n:Nat}(hi:i≤j)(hj:j≤n)(hn:n≤9223372036854775807):
  IntKind.i64.wrap ((IntKind.u64.wrap (IntKind.i64.wrap ((i:Int)+(j:Int)))).fdiv (2 ^ min 1 64))=(((i+j) / 2:Nat):Int):=by
 have e1:IntKind.u64.wrap (IntKind.i64.wrap ((i:Int)+(j:Int)))=(i:Int)+(j:Int):=by
  rw[IntKind.wrap_i64,IntKind.wrap_u64];omega
 have e2:(2:Int) ^ min 1 64=2:=by decide
 rw[e1,e2,Int.fdiv_eq_ediv_of_nonneg _ (by omega),wrap_i64 (by omega) (by omega)]
 omega
theorem aVT(b:Bool)(l:List Nd)(id:Int)(fn:Fn)(fs cs:List AV)(hs:chk l=true)(H:AHeap)(hf:∀n:Nd,FnV Tryz.prog (.func fn fs cs) [ndA n,.int .i64 id] H (.int .i64 (aBf n.id id))):
  cJ Tryz.prog 194 [.sl b (l.map ndA),.int .i64 id,.func fn fs cs] H (.tup [.int .i64 (pos l id),.bool (had l id)]):=by
 refine aFC fun hok _ _=>?_
 have hl:=lK hok
 rw[List.length_map]at hl
 have hpw:=((oY l).1 hs).2
 rw[List.pairwise_iff_getElem]at hpw
 simp only[ndA]at hf
 refine aL Tryz.func194 rfl (Nat.le_of_ble_eq_true rfl) ?_
 repeat' first|(refine gS ?_;simp only[go_sem])|refine gA ?_|(refine gD (fun h=>?_) (fun h=>?_)<;>try exact aA h)|fail
 refine aP (ι:=Nat×Nat) (fun x=>[(0,.sl b (l.map ndA)),(1,.int .i64 id),(2,.func fn fs cs),(8,.int .i64 l.length),(9,.int .i64 x.1),(10,.int .i64 x.2)]) (fun x=>H)
  (fun x=>x.1≤x.2∧x.2≤l.length∧(∀k (h:k<l.length),k<x.1→l[k].id<id)∧∀k (h:k<l.length),x.2≤k→¬l[k].id<id) (fun x=>x.2-x.1) (0,l.length) ⟨Nat.zero_le _,Nat.le_refl _,fun k _ h=>by simp at h,fun k h h2=>by simp at h2;omega⟩ ?_ rfl ?_
 ·simp[go_sem]
 ·rintro⟨i,j⟩ ⟨hi,hj,h1,h2⟩
  simp only at hi hj h1 h2 ⊢
  by_cases hlt:i<j
  ·have hm:=aQk hi hj hl
   have hml:(i+j) / 2<l.length:=by omega
   have hp:=bA ndA hml
   repeat' first|(refine gS ?_;simp only[go_sem,hm,hp,ndA])|refine gA ?_|(refine gD (fun h=>?_) (fun h=>?_)<;>try exact aA h)|fail
   refine pW (hf _) ?_
   simp only[go_sem,hm,hp,ndA]
   repeat' first|(refine gS ?_;simp only[go_sem,hm,hp,ndA])|refine gA ?_|(refine gD (fun h=>?_) (fun h=>?_)<;>try exact aA h)|fail
   ·have hc:l[(i+j) / 2].id<id:=by
     have h':=of_decide_eq_true h
     unfold aBf at h'
     repeat' split at h'
     all_goals omega
    refine⟨((i+j) / 2+1,j),⟨by simp only;omega,hj,fun k hk hk2=>?_,h2⟩,by simp only;omega,congrArg _ (bD hml hl),rfl⟩
    simp only at hk2
    rcases Nat.lt_or_ge k ((i+j) / 2)with hk3|hk3
    ·exact Int.lt_trans (hpw k _ hk hml hk3) hc
    ·obtain rfl:k=(i+j) / 2:=by omega
     exact hc
   ·have hc:¬l[(i+j) / 2].id<id:=by
     have h':=of_decide_eq_false h
     unfold aBf at h'
     repeat' split at h'
     all_goals omega
    refine⟨(i,(i+j) / 2),⟨by simp only;omega,by simp only;omega,h1,fun k hk hk2=>?_⟩,by simp only;omega,rfl,rfl⟩
    simp only at hk2
    rcases Nat.lt_or_ge ((i+j) / 2) k with hk3|hk3
    ·have:=hpw _ k hml hk hk3;omega
    ·obtain rfl:k=(i+j) / 2:=by omega
     exact hc
  ·have hi':i=j:=by omega
   subst hi'
   have hpos:=aQi hj (fun k hk=>h1 k (by omega) hk) (fun h=>h2 i h (Nat.le_refl _))
   by_cases hlt2:i<l.length
   ·have hp:=bA ndA hlt2
    repeat' first|(refine gS ?_;simp only[go_sem,hp,ndA])|refine gA ?_|(refine gD (fun h=>?_) (fun h=>?_)<;>try exact aA h)|fail
    have hf0:=fun n=>(hf n) []
    simp only[List.append_nil]at hf0
    refine⟨_,fun _=>hf0 _,?_⟩
    simp only[go_sem,hp,ndA]
    repeat' first|(refine gS ?_;simp only[go_sem,hp,ndA])|refine gA ?_|(refine gD (fun h=>?_) (fun h=>?_)<;>try exact aA h)|fail
    refine aY (by simp only[go_sem]) (.of ?_)
    rw[oZ hs,hpos,List.getElem?_eq_getElem hlt2]
    have e1:decide ((i:Int)<(l.length:Int))=true:=by simpa using hlt2
    have e2:decide (aBf l[i].id id=0)=decide (l[i].id=id):=by
     unfold aBf
     rcases Int.lt_trichotomy l[i].id id with q|q|q
     ·rw[if_pos q,decide_eq_false (show ¬l[i].id=id by omega)];rfl
     ·rw[if_neg (by omega),if_neg (by omega),decide_eq_true q];rfl
     ·rw[if_neg (by omega),if_pos q,decide_eq_false (show ¬l[i].id=id by omega)];rfl
    rw[e1,e2];rfl
   ·repeat' first|(refine gS ?_;simp only[go_sem,hlt2])|refine gA ?_|(refine gD (fun h=>?_) (fun h=>?_)<;>try exact aA h)|fail
    have e1:decide ((i:Int)<(l.length:Int))=false:=by simpa using hlt2
    refine⟨.int .i64 1,fun hg=>?_,?_⟩
    ·rw[e1]at hg;cases hg
    simp only[go_sem]
    repeat' first|(refine gS ?_;simp only[go_sem])|refine gA ?_|(refine gD (fun h=>?_) (fun h=>?_)<;>try exact aA h)|fail
    refine aY (by simp only[go_sem]) (.of ?_)
    rw[oZ hs,hpos,List.getElem?_eq_none (by omega),e1];rfl
theorem yU(b:Bool)(l:List Nd)(id:Int)(hs:chk l=true)(H:AHeap):cJ Tryz.prog 164 [.sl b (l.map ndA),.int .i64 id] H (.tup [.int .i64 (pos l id),.bool (had l id)]):=by
 refine aL Tryz.func164 rfl (Nat.le_of_ble_eq_true rfl) ?_
 have hbs:=aVT b l id (.func 195) [] [] hs H fun n=>.mk (first:=[]) (cap:=[]) (fun L=>aQj n id (H++L)) aEo
 repeat' first|((first|refine aV (hbs) sQ ?_|refine aW (hbs) sQ ?_|refine aX (fun _=>hbs) sQ ?_|refine gS ?_);simp only[go_sem])|refine gA ?_|(refine gD (fun h=>?_) (fun h=>?_)<;>try exact aA h)|fail
 exact aY (by simp only[go_sem]) (.refl _)
def ndV(r:Option Nd):AV:=.tup [ndA (r.getD nd0),.bool r.isSome]
theorem aQl(b:Bool)(l:List Nd)(id:Int)(H:AHeap):cJ Tryz.prog 125 [.sl b (l.map ndA),.int .i64 id] H (ndV (findI l id)):=by
 refine aL Tryz.func125 rfl (Nat.le_of_ble_eq_true rfl) ?_
 unfold findI
 cases hs:chk l with
 |false=>
  repeat' first|((first|refine cK (ct (bR _ _) aR) ?_|refine cP (ct (bR _ _) aR) ?_|refine cM (ct (bR _ _) aR) ?_|refine gS ?_);simp only[go_sem,hs])|refine gA ?_|(refine gD (fun h=>?_) (fun h=>?_)<;>try exact aA h)|fail
  exact done (by simp only[go_sem]) (.refl _)
 |true=>
  have hpl:=yU b l id hs
  cases hh:had l id with
  |false=>
   have ct0:=ct hpl cU;repeat' first|((first|refine gK ?_|refine cK (ct (bR _ _) aR) ?_|refine cP (ct (bR _ _) aR) ?_|refine cM (ct (bR _ _) aR) ?_|refine gS ?_);simp only[go_sem,hs,hh])|refine gA ?_|(refine gD (fun h=>?_) (fun h=>?_)<;>try exact aA h)|fail
   rw[aCi hh]
   exact done (by simp only[go_sem]) (.refl _)
  |true=>
   have hlt:=mG hs hh
   have hp:=bA ndA hlt
   rw[yQ hs hh]
   have ct0:=ct hpl cU;repeat' first|((first|refine gK ?_|refine cK (ct (bR _ _) aR) ?_|refine cP (ct (bR _ _) aR) ?_|refine cM (ct (bR _ _) aR) ?_|refine gS ?_);simp only[go_sem,hs,hh,hp,ndA])|refine gA ?_|(refine gD (fun h=>?_) (fun h=>?_)<;>try exact aA h)|fail
   exact done (by simp only[go_sem]) (.refl _)
end Go.Proofs.YthhdnjiodklmmaaGreatDoor
