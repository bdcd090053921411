/- What the functions of this seat answer (30 of 38). No condition. -/
import Derived.Test.YtennnelammaapaaGreatDoorWorkBC
set_option linter.unusedSimpArgs false
set_option linter.unusedVariables false
set_option linter.unusedSectionVars false
set_option maxRecDepth 100000
set_option maxHeartbeats 16000000
namespace Go.Proofs.YtennnelammaapaaGreatDoor
section
variable {P:Program}
@[go_sem] theorem aV8(all os:List Oper)(pp:List Pl)(k:Nat)(fs:List Bool)(α:AF)(H:AHeap)(hist:List AHeap)(past:fT)(kont:AF→AHeap→Prop)(dst:Option Tmp)(ty t:TypeId)(pos:String)(after:Array Edge)(x:Array (Nat×Operand)):
  bQ P all (.eff fs::pp) (⟨dst,.build t x,ty,pos,after,none⟩::os) k α H hist past kont=((aL P (.build t x) (ev α) H).s∧vC fs past (aL P (.build t x) (ev α) H).H∧bQ P all pp os (k+1) (bO dst (aL P (.build t x) (ev α) H).v α) (aL P (.build t x) (ev α) H).H (H::hist) (jH fs past) kont):=
 exE (A:=(aL P (.build t x) (ev α) H).s) (b:=(aL P (.build t x) (ev α) H).v) (G:=(aL P (.build t x) (ev α) H).H) (W:=fun H1=>vC fs past H1) (X:=fun v H1=>bQ P all pp os (k+1) (bO dst v α) H1 (H::hist) (jH fs past) kont)
end
section
def nT:List Pl:=[.pure 0,.pure 0,.eff [false,true],.pure 1,.pure 1,.eff [false,true,true],.eff [true,true],.eff [true,true],.eff [true,true],.free]
def lD:List Pl:=[.free,.free,.pure 0,.pure 0,.pure 0,.pure 0,.pure 0,.free,.eff [true,false,true,true,true],.pure 0,.pure 0,.pure 0,.eff [false,true,true,false,false,false,false]]
attribute [go_sem] nT lD
theorem aED(b:Bool)(l:List Hld)(hl:l.length≤1073741824)(H:AHeap):
  ACalls Tryz.prog 109 [.sl b (l.map hdA)] H (fun v H'=>v=.osl 2 H.length 1 0 l.length l.length∧H'=H++[.cells 1 (flA hdA l)]):=by
 refine aQ Tryz.func109 ?_;have hcl:∀n,ClB n (.cells 1 (flA hdA l)):=fun n=>rR (fun x=>by simp only[go_sem]) n 1 l
 have fin:∀v H',v=.osl 2 H.length 1 0 l.length l.length→H'=H++[.cells 1 (flA hdA l)]→∃H1 L y,H'=H1++L∧H.length≤H1.length∧(∀(i:Nat) (b:ABlk),H1[i]?=some b→H[i]?=some b∨ClB H1.length b)∧Frz H1.length H' v y∧
   y=.osl 2 H.length 1 0 l.length l.length∧H1=H++[.cells 1 (flA hdA l)]:=by
  rintro v H' rfl rfl;exact⟨_,[],_,(zAd _).symm,by simp,jU fun b hb=>by(rw[zAq]at hb;subst hb;exact hcl _),.cl _ (.osl _ _ _ _ _ _ (by simp)),rfl,rfl⟩
 have hfl:List.flatMap AV.cells (l.map hdA)=flA hdA l:=rfl;repeat' first|(refine gS ?_;simp only[go_sem])|refine gA ?_|(refine gD ?_ ?_<;>intro h<;>try exact aA h)|fail
 intro c hc;cases c with
 |true=>
  have hnil:l=[]:=by
   cases l with
   |nil=>rfl
   |cons x l=>exact absurd (hc (by simp)) (by decide)
  subst hnil;repeat' first|(refine gS ?_;simp only[go_sem])|refine gA ?_|fail
  refine eJ rfl (fun _=>?_) (fun h=>by cases h)
  refine pF ?_;refine dR rfl ?_;simp only[go_sem];refine jR 2 2 rfl ?_;repeat' first|(refine gS ?_;simp only[go_sem])|refine gA ?_|(refine gD ?_ ?_<;>intro h<;>try exact aA h)|fail
  exact fin _ _ rfl rfl
 |false=>
  clear hc;have hc1:(∀e∈l.map hdA,e.cells.length=2)=True:=zAC fun e he=>by(obtain⟨x,_,rfl⟩:=zAm.1 he;rfl)
  have hl8:(l.length * 16≤140737488355328)=True:=zAC (by omega)
  repeat' first|(refine gS ?_;simp only[go_sem,hc1,hfl,hl8,zCW,true_or])|refine gA ?_|(refine gD ?_ ?_<;>intro h<;>try exact aA h)|fail
  exact fin _ _ rfl rfl
def nU(n:Nat)(f1 f2:Bool)(t:Tbl):AHeap:=[.cells 0 (mP f1 f2 t).cells,.cells 1 (flA hdA t.held),.cells 1 (flA hdA t.waits),.cells 0 [.osl 2 (n+1) 1 0 t.held.length t.held.length,.osl 2 (n+2) 1 0 t.waits.length t.waits.length]]
theorem aBv(f1 f2:Bool)(t:Tbl)(h1:t.held.length≤1000000)(h2:t.waits.length≤1000000)(H:AHeap):
  ACalls Tryz.prog 91 [mP f1 f2 t] H (fun v H'=>v=.ref (H.length+3) 0 0∧H'=H++nU H.length f1 f2 t):=by
 refine aQ Tryz.func91 ?_;repeat' first|((first|refine mx [1] nT ?_|refine gS ?_);simp only[go_sem,mP])|refine gA ?_|(refine gD ?_ ?_<;>intro h<;>try exact aA h)|fail
 refine dX (aED f1 t.held (by omega) _) (cO) ?_
 have hf1:=aU (enc:=hdA) (s:=2) (fun _=>rfl) t.held
 have hf2:=aU (enc:=hdA) (s:=2) (fun _=>rfl) t.waits
 simp only[go_sem];repeat' first|((first|refine mx [1] nT ?_|refine gS ?_);simp only[go_sem,mP])|refine gA ?_|(refine gD ?_ ?_<;>intro h<;>try exact aA h)|fail
 refine dX (aED f2 t.waits (by omega) _) (cO) ?_
 simp only[go_sem];repeat' first|((first|refine mx [1] nT ?_|refine gS ?_);simp only[go_sem,mP,hf1,hf2])|refine gA ?_|(refine gD ?_ ?_<;>intro h<;>try exact aA h)|fail
 refine⟨_,[],_,(zAd _).symm,by simp,jU fun b hb=>?_,.cl _ (.ref _ _ _ (by simp)),rfl,rfl⟩
 have hpu:∀(n v:Nat) (l:List Hld),ClB n (.cells v (flA hdA l)):=fun n v l=>rR (fun x=>by simp only[go_sem]) n v l
 simp only[zAs,zAH,zBv]at hb;rcases hb with rfl|rfl|rfl|rfl
 ·intro x hx;simp only[zAs,zAH,zBv]at hx;rcases hx with rfl|rfl
  ·exact(Pur.sl _ _ fun e he=>by(obtain⟨x,_,rfl⟩:=zAm.1 he;simp only[go_sem])).cl _
  ·exact(Pur.sl _ _ fun e he=>by(obtain⟨x,_,rfl⟩:=zAm.1 he;simp only[go_sem])).cl _
 ·exact hpu _ _ _
 ·exact hpu _ _ _
 ·intro x hx;simp only[zAs,zAH,zBv]at hx;rcases hx with rfl|rfl
  ·exact .osl _ _ _ _ _ _ (by simp)
  ·exact .osl _ _ _ _ _ _ (by simp)
def aIV(r:Tbl×Bool):AV:=.tup [mP false false r.1,.bool r.2]
theorem aDm{n:Nat}{H:AHeap}(t:Tbl){a b:AV}(ha:Frz n H a (.sl false (t.held.map hdA)))(hb:Frz n H b (.sl false (t.waits.map hdA))):Frz n H (.agg [a,b]) (mP false false t):=.agg _ _ rfl (aT ha (aT hb bN))
theorem rZ{n i v k lc:Nat}{H:AHeap}{cs:List AV}(D:List Hld)(hn:n≤i)(hh:hget H i=.cells v cs)(hc:cs=flA hdA D)(hk:D.length=k):Frz n H (.osl 2 i v 0 k lc) (.sl false (D.map hdA)):=
 qN hn (by rw[hh,hc]) hk (fun _=>rfl) (fun x=>by simp only[go_sem])
theorem aHv(l:List Hld)(p:Hld→Bool)(i v lc n:Nat)(hn:n=l.length)(hlc:n≤lc)(hl:n≤1073741824){fn:Fn}{fs cs:List AV}(H:AHeap)(hh:hget H i=.cells v (flA hdA l))
  (hf:∀x,ACall Tryz.prog (.func fn fs cs) [hdA x] H (fun r G'=>r=.bool (p x)∧G'=H)):
  bH Tryz.prog 37 [.osl 2 i v 0 n lc,.func fn fs cs] H (.int .i64 (cQ p l)):=by
 refine fO Tryz.func37 ?_;have hln:(flA hdA l).length=n * 2:=by rw[aU (s:=2) (fun _=>rfl),hn]
 have hf':=hf;simp only[hdA]at hf';repeat' first|(refine gS ?_;simp only[go_sem,hh])|refine gA ?_|(refine gD ?_ ?_<;>intro h<;>try exact aA h)|fail
 refine aI (ι:=Nat) (fun k=>[(0,.osl 2 i v 0 n lc),(1,.func fn fs cs),(7,.int .i64 n),(8,.int .i64 k)]) (fun _=>H) (fun k=>k≤n∧∀q (hk:q<k) (hk2:q<l.length),p l[q]=false) (fun k=>n-k) 0 ⟨zAo _,fun q hk=>by omega⟩ ?_ rfl ?_
 ·simp[go_sem]
 ·rintro k ⟨hk,hno⟩;by_cases hlt:k<l.length
  ·have hp:=iM (enc:=hdA) (s:=2) (fun _=>rfl) hlt
   simp only[hdA,AV.cells]at hp;have hli:decide ((k:Int)<(n:Int))=true:=dT;have hw:=aS hlt (by omega)
   repeat' first|(refine gS ?_;simp only[go_sem,hh,hli,hp,hln])|refine gA ?_|(refine gD ?_ ?_<;>intro h<;>try exact aA h)|fail
   refine iV (hf' l[k]) ?_;simp only[go_sem];repeat' first|(refine gS ?_;simp only[go_sem])|refine gA ?_|(refine gD ?_ ?_<;>intro h<;>try exact aA h)|fail
   ·exact cL (.of (by rw[eV p l k hlt (fun q hq=>hno q hq (by omega)) (by assumption)]))
   ·refine⟨k+1,⟨by omega,fun q hq hq2=>?_⟩,by omega,zAx _ hw⟩
    by_cases e:q=k
    ·subst e;assumption
    ·exact hno q (by omega) (by omega)
  ·have hi':k=n:=by omega
   subst hi';have hli:decide ((k:Int)<(k:Int))=false:=by simp
   repeat' first|(refine gS ?_;simp only[go_sem,hh,hli])|refine gA ?_|(refine gD ?_ ?_<;>intro h<;>try exact aA h)|fail
   exact cL (.of (by rw[eW p l fun q hk=>hno q (by omega) hk]))
theorem aPd(l:List Hld)(p:Hld→Bool)(i v lc n:Nat)(hn:n=l.length)(hlc:n≤lc)(hl:n≤1073741824){fn:Fn}{fs cs:List AV}(H:AHeap)(hh:hget H i=.cells v (flA hdA l))
  (hf:∀x,ACall Tryz.prog (.func fn fs cs) [hdA x] H (fun r G'=>r=.bool (p x)∧G'=H)):
  bH Tryz.prog 93 [.osl 2 i v 0 n lc,.func fn fs cs] H (.bool (l.any p)):=by
 refine fO Tryz.func93 ?_;have hx:=aHv l p i v lc n hn hlc hl H hh hf;repeat' first|((first|refine aZ (hx) (cO) ?_|refine bA (hx) (cO) ?_|refine bB (fun _=>hx) (cO) ?_|refine gS ?_);simp only[go_sem])|refine gA ?_|(refine gD ?_ ?_<;>intro h<;>try exact aA h)|fail
 exact cL (.of (by rw[jW]))
theorem aPe{i:Nat}{w:Hld}{G:AHeap}(hi:hget G i=.cells 0 (hdA w).cells)(s:Hld):bH Tryz.prog 92 [hdA s,.ref i 0 0] G (.bool (decide (s=w))):=by
 refine fO Tryz.func92 ?_;have hi1:=aG hi trivial;simp only[hdA,AV.cells]at hi hi1;repeat' first|(refine gS ?_;simp only[go_sem,hdA,hi,hi1])|refine gA ?_|(refine gD ?_ ?_<;>intro h<;>try exact aA h)|fail
 exact dY (.of (by cases s;cases w;simp))
theorem aSW(f1 f2:Bool)(t:Tbl)(n k:Int)(h1:t.held.length≤1000000)(h2:t.waits.length≤1000000)(H:AHeap):bH Tryz.prog 74 [mP f1 f2 t,.int .i64 n,.int .i64 k] H (aIV (aBP t n k)):=by
 refine fO Tryz.func74 ?_;have hho:=aCA f1 f2 t k;have hen:=aBv f1 f2 t h1 h2;simp only[mP,aIO]at hho hen;have hf1:=aU (enc:=hdA) (s:=2) (fun _=>rfl) t.held
 have hf2:=aU (enc:=hdA) (s:=2) (fun _=>rfl) t.waits
 repeat' first|(refine gS ?_;simp only[go_sem,mP])|refine gA ?_|(refine gD ?_ ?_<;>intro h<;>try exact aA h)|fail
 refine aR (hen _) (cO) ?_;rintro v H' ⟨rfl,rfl⟩;unfold nU mP;simp only[go_sem];unfold aBP;cases hf:mQ t.held k with
 |none=>
  rw[hf]at hho;repeat' first|((first|refine mx [7,11] lD ?_|refine gS ?_);simp only[go_sem,hf1,hf2])|refine gA ?_|(refine gD ?_ ?_<;>intro h<;>try exact aA h)|fail
  refine⟨⟨fun e he=>by rw[he];rfl,by omega⟩,?_⟩
  repeat' first|(refine gS ?_;simp only[go_sem,hf1,hf2])|refine gA ?_|(refine gD ?_ ?_<;>intro h<;>try exact aA h)|fail
  exact⟨_,aIV (⟨t.held++[⟨k,n⟩],t.waits⟩,true),rfl,.tup _ _ rfl (aT (aDm ⟨t.held++[⟨k,n⟩],t.waits⟩ (rZ _ (by omega) (by simp only[go_sem];try rfl) (cB ..).symm (by simp)) (rZ _ (by omega) (by simp only[go_sem];try rfl) rfl rfl)) (aT (.cl _ (.bool _)) bN)),rfl⟩
 |some j=>
  rw[hf]at hho;by_cases hj:j=n
  ·have dj:decide (j=n)=true:=zAj hj;simp only[zAl hj];repeat' first|((first|refine mx [7,11] lD ?_|refine gS ?_);simp only[go_sem,hf1,hf2,dj,zBh])|refine gA ?_|(refine gD ?_ ?_<;>intro h<;>try exact aA h)|fail
   exact⟨_,aIV (t,true),rfl,.tup _ _ rfl (aT (aDm t (rZ _ (by omega) (by simp only[go_sem];try rfl) rfl rfl) (rZ _ (by omega) (by simp only[go_sem];try rfl) rfl rfl)) (aT (.cl _ (.bool _)) bN)),rfl⟩
  ·have dj:decide (j=n)=false:=zAg hj;simp only[zAe hj];repeat' first|((first|refine mx [7,11] lD ?_|refine gS ?_);simp only[go_sem,hf1,hf2,dj,zBh])|refine gA ?_|(refine gD ?_ ?_<;>intro h<;>try exact aA h)|fail
   refine aZ (aPd t.waits (fun s=>decide (s=⟨k,n⟩)) (H.length+4) 1 t.waits.length t.waits.length rfl (zAf _) (by omega) _ (by simp only[go_sem]) (fun x=>Or.inl ⟨(cO),aPe (w:=⟨k,n⟩) (by simp only[go_sem];try rfl) x⟩)) (cO) ?_
   have hany:(t.waits.any fun s=>decide (s=⟨k,n⟩))=t.waits.contains ⟨k,n⟩:=by rw[List.contains_eq_any_beq];congr 1;funext s;simp[eq_comm,Bool.beq_eq_decide_eq]
   rw[hany];cases hc:t.waits.contains ⟨k,n⟩with
   |true=>
    simp only[go_sem];repeat' first|(refine gS ?_;simp only[go_sem])|refine gA ?_|(refine gD ?_ ?_<;>intro h<;>try exact aA h)|fail
    exact⟨_,aIV (t,false),rfl,.tup _ _ rfl (aT (aDm t (rZ _ (by omega) (by simp only[go_sem];try rfl) rfl rfl) (rZ _ (by omega) (by simp only[go_sem];try rfl) rfl rfl)) (aT (.cl _ (.bool _)) bN)),rfl⟩
   |false=>
    simp only[go_sem];repeat' first|((first|refine mx [7,11] lD ?_|refine gS ?_);simp only[go_sem,hf1,hf2])|refine gA ?_|(refine gD ?_ ?_<;>intro h<;>try exact aA h)|fail
    refine⟨⟨fun e he=>by rw[he];rfl,by omega⟩,?_⟩
    repeat' first|(refine gS ?_;simp only[go_sem,hf1,hf2])|refine gA ?_|(refine gD ?_ ?_<;>intro h<;>try exact aA h)|fail
    exact⟨_,aIV (⟨t.held,t.waits++[⟨k,n⟩]⟩,false),rfl,.tup _ _ rfl (aT (aDm ⟨t.held,t.waits++[⟨k,n⟩]⟩ (rZ _ (by omega) (by simp only[go_sem];try rfl) rfl rfl) (rZ _ (by omega) (by simp only[go_sem];try rfl) (cB ..).symm (by simp))) (aT (.cl _ (.bool _)) bN)),rfl⟩
end
section
theorem aGd{α:Type}{p:α→Bool}{A B:List α}{x:α}(hA:A.filter (fun x=> !p x)=A)(hx:p x=true):(A++x::B).find? p=some x:=by
 rw[List.find?_append];have:A.find? p=none:=by
  rw[zBi];intro a ha;rw[←hA]at ha;have:=(zBb.1 ha).2;simpa using this
 rw[this];simp[hx]
theorem aEE{n:Int}{A B:List Wch}{w:Wch}(hA:A.filter (fun x=> !decide (x.n=n))=A)(hx:w.n=n):qE n (A++w::B)=A++{w with evs:=[]}::B:=by
 induction A with
 |nil=>simp[qE,hx]
 |cons a A ih=>
  have hne:a.n≠n:=by
   have ha:a∈(a::A).filter (fun x=> !decide (x.n=n)):=by rw[hA];simp
   simpa using(zBb.1 ha).2
  rw[zA0,qE,zAe hne,ih]
  ·rfl
  ·rw[zA5,zAl (by simp[hne])]at hA
   exact(zBn hA).2
theorem aLP{α:Type}{p:α→Bool}{l:List α}(h:cQ p l= -1):l.find? p=none:=by
 rw[zBi];intro x hx;rw[←eQ h]at hx;have:=(zBb.1 hx).2;simpa using this
def sA:List Pl:=[.pure 0,.pure 0,.pure 0,.pure 0,.pure 0,.pure 0,.eff [false,true,true,true,true,true],.pure 0,.pure 0,.pure 0,.eff [false,true,true,false,false,false,false,false]]
def sB:List Pl:=[.free,.pure 0,.free,.pure 0,.pure 0,.pure 0,.free,.pure 0,.pure 0,.pure 0,.pure 0,.pure 0,.pure 0,.free,.free,.free,.pure 0,.pure 0,.eff [false,true,false,false,false,false,false,false,false,false,false,true],.pure 0,.pure 0,.pure 0,.eff [false,true,true,false,false]]
def zT:List Pl:=[.free,.free,.pure 0,.pure 0,.pure 0,.free,.free,.pure 0,.pure 0,.pure 0,.pure 0,.pure 0,.free,.pure 0,.pure 0,.pure 0,.pure 0,.pure 0,.pure 0,.pure 0,.eff [false,true,false,false,false,false,false,false,false,false,false,false,false,false,false]]
attribute [go_sem] sA sB zT
theorem aPf{i j:Nat}{c:Cal}{d:Dsk}{G:AHeap}(hb:KB i j c d G)(hs:DS d.m):aEv Tryz.prog 129 i j c (aCm c d) G:=by
 refine aF Tryz.func129 ?_;have r0:=hb.b1;have r1:=aG hb.b1 trivial;have r2:=aG hb.b2 trivial;have hne:=hb.ne;have hl1:=hb.lt1;have hl2:=hb.lt2;have r3:=hb.r3;have r4:=hb.r4;have hnl:=aC G i;simp only[dkC]at r0 r1;have qs:=tZ hl1 hl2 hne rfl;have hA1:∀H,hget H G.length=.cells 0 [.ref i 0 0]→hget H i=.cells 0 (dkC j c d)→bH Tryz.prog 165 [.sl false (d.m.watches.map dJ),.func (.func 166) [] [.ref G.length 0 0]] H (.int .i64 (cQ (fun s=>decide (s.n=c.n)) d.m.watches)):=
  fun H h1 h2=>zI false d.m.watches (.func 166) [] [.ref G.length 0 0] (fun s=>decide (s.n=c.n)) H (fun s=>.mk (first:=[]) (fun L=>aPb G.length (aD h1 trivial L) (aD h2 trivial L) s) (cO))
 simp only[dkC]at hA1;have k1:¬i=G.length:=by omega
 unfold aCm;have hgw:=hs.watches;by_cases h1:cQ (fun s:Wch=>decide (s.n=c.n)) d.m.watches= -1
 ·rw[h1]at hA1;rw[aLP h1];repeat' first|((first|refine aZ (hA1 _ (by simp only[go_sem,r0,r1,r2,r3,r4,hnl,qs,aC,Int.reduceLT]) (by simp only[go_sem,r0,r1,r2,r3,r4,hnl,qs,aC,Int.reduceLT])) (cO) ?_|refine bA (hA1 _ (by simp only[go_sem,r0,r1,r2,r3,r4,hnl,qs,aC,Int.reduceLT]) (by simp only[go_sem,r0,r1,r2,r3,r4,hnl,qs,aC,Int.reduceLT])) (cO) ?_|refine bB (fun _=>hA1 _ (by simp only[go_sem,r0,r1,r2,r3,r4,hnl,qs,aC,Int.reduceLT]) (by simp only[go_sem,r0,r1,r2,r3,r4,hnl,qs,aC,Int.reduceLT])) (cO) ?_|refine gS ?_);simp only[go_sem,r0,r1,r2,r3,r4,hnl,qs,aC,Int.reduceLT])|refine gA ?_|(refine gD ?_ ?_<;>intro h<;>try exact aA h)|fail
  exact aDl hb rfl _
 obtain⟨A,w,B,e1,e2,e3,e4⟩:=mO h1;rw[e2]at hA1;have hw:w.n=c.n:=by simpa using e3
 have hws:d.m.watches.find? (fun s=>decide (s.n=c.n))=some w:=by rw[e1];exact aGd e4 e3
 rw[hws];simp only;have hem:qE c.n d.m.watches=A++{w with evs:=[]}::B:=by rw[e1];exact aEE e4 hw
 rw[hem];have hle:w.evs.length≤1000000:=hs.evs w (by rw[e1];simp)
 have hlen:d.m.watches.length=A.length+(B.length+1):=by rw[e1];simp
 have d1:decide (((A.length:Nat):Int)<0)=false:=dF;repeat' first|((first|refine aZ (hA1 _ (by simp only[go_sem,r0,r1,r2,r3,r4,hnl,qs,aC,d1]) (by simp only[go_sem,r0,r1,r2,r3,r4,hnl,qs,aC,d1])) (cO) ?_|refine bA (hA1 _ (by simp only[go_sem,r0,r1,r2,r3,r4,hnl,qs,aC,d1]) (by simp only[go_sem,r0,r1,r2,r3,r4,hnl,qs,aC,d1])) (cO) ?_|refine bB (fun _=>hA1 _ (by simp only[go_sem,r0,r1,r2,r3,r4,hnl,qs,aC,d1]) (by simp only[go_sem,r0,r1,r2,r3,r4,hnl,qs,aC,d1])) (cO) ?_|refine mx [4] sA ?_|refine mx [6] sB ?_|refine gS ?_);simp only[go_sem,r0,r1,r2,r3,r4,hnl,qs,aC,d1])|refine gA ?_|(refine gD ?_ ?_<;>intro h<;>try exact aA h)|fail
 refine dX (tD false d.m.watches (by omega) _) (cO) ?_
 simp only[go_sem,r0,r1,r2,r3,r4,hnl,qs,aC];have hlA:=aU (enc:=dJ) (s:=4) (fun _=>rfl) A
 have hfl:flA dJ d.m.watches=flA dJ A++(.int .i64 w.n::.int .i64 w.dir::.sl false (w.evs.map fF)::.bool w.over::flA dJ B):=by rw[e1,cB,fG];rfl
 have hdr:List.drop (A.length * 4+2) (flA dJ d.m.watches)=.sl false (w.evs.map fF)::.bool w.over::flA dJ B:=by
  rw[hfl,←hlA,List.drop_append];simp
 have hp1:List.take 2 (List.drop (A.length * 4+2) (flA dJ d.m.watches))=[.sl false (w.evs.map fF),.bool w.over]:=by rw[hdr];rfl
 have hp2:(flA dJ d.m.watches).getD (A.length * 4+2) .top=.sl false (w.evs.map fF):=by
  rw[zAh,←List.head?_drop,hdr];rfl
 have hfn:(flA dJ d.m.watches).length=(A.length+(B.length+1)) * 4:=by rw[aU (s:=4) (fun _=>rfl),hlen]
 have hwt:=aO8 false w.over w.evs (w.evs.length:Int) (by omega)
 simp only[zAI,Nat.min_self,zBp,zAD,zAZ]at hwt;have hsp:bG (flA dJ d.m.watches) (A.length * 4+2) [.sl false [],.bool w.over]=flA dJ (A++{w with evs:=[]}::B):=by
  have e:=cD (A:=flA dJ A++[.int .i64 w.n,.int .i64 w.dir]) (B:=.sl false (w.evs.map fF)::.bool w.over::flA dJ B) (off:=A.length * 4+2) (X:=[.sl false [],.bool w.over]) (by simp[hlA])
  rw[hfl];rw[show flA dJ A++[AV.int .i64 w.n,.int .i64 w.dir]++(.sl false (w.evs.map fF)::.bool w.over::flA dJ B)=flA dJ A++(.int .i64 w.n::.int .i64 w.dir::.sl false (w.evs.map fF)::.bool w.over::flA dJ B) by simp]at e
  rw[e,cB,fG];simp[dJ,AV.cells]
 repeat' first|((first|refine mx [4] sA ?_|refine mx [6] sB ?_|refine gS ?_);simp only[go_sem,r0,r1,r2,r3,r4,hnl,qs,aC,hlen,hp1,hp2,hfn,hsp])|refine gA ?_|(refine gD ?_ ?_<;>intro h<;>try exact aA h)|fail
 refine wM hb rfl rfl rfl ?_;unfold dkC;repeat' first|exact bN|refine aT ?_ ?_|exact .cl _ (.int _ _)|exact .cl _ (.str _)|exact .cl _ (yE _ _ _)|exact .cl _ (yD _ _ _)|exact .cl _ (yF _ _ _)|exact .cl _ (yG _ _ _)|exact .cl _ (yH _ _ _)|exact .cl _ (yI _ _ _)|exact .cl _ (.osl _ _ _ _ _ _ hl2)
 exact qN (by omega) (by first|(simp only[go_sem,r0,r1,r2,r3,r4,hnl,qs,aC];done)|(simp only[go_sem,r0,r1,r2,r3,r4,hnl,qs,aC];rfl)) (by simp) (fun _=>rfl) (fun x=>by simp only[go_sem])
theorem aIW(a b:List Itm):(aCj a b).length≤a.length+b.length+b.length:=by
 unfold aCj;simp only[zAa,zAn,List.length_reverse];have h1:=zA2 (aEb b) a;have h2:=zA2 (aEb a) b;have h3:=zA2 (aKH a) b;have h4:=zA2 (aEb b) a.reverse;rw[List.length_reverse]at h4;omega
theorem aBw{l:List Nd}(h:Wfr l){dir:Int}(hd:dirI dir=true):(iL l dir).length≤l.length:=by
 unfold iL;split
 ·rename_i hc;exact aOi hc h _ _ _ hd
 ·exact zAo _
theorem aPg{i j:Nat}{c:Cal}{d d':Dsk}{G L:AHeap}{cs:List AV}(h:KB i j c d G)(ho:d'.ops=d.ops)(hl:cs.length=18)
  (hf:∀(m:Nat) (x y:AV),cs[m]?=some x→(dkC j c d')[m]?=some y→Frz G.length (aB G i (.cells 0 cs)++L) x y):
  ∃A L' H1 y,aB G i (.cells 0 cs)++L=A++L'∧A.length=G.length∧H1.length=G.length∧aFi G.length (aB G i (.cells 0 cs)++L) A H1 G∧Frz G.length (aB G i (.cells 0 cs)++L) (.tup []) y∧(y=.tup []∧H1=oL G i j c d'):=by
 obtain⟨A,L',H1,y,e1,e2,e3,e4, -, -,e6⟩:=wM (e:=0) h rfl ho hl hf;exact⟨A,L',H1,_,e1,e2,e3,e4,.cl _ (.tup _ fun _ _ hx=>by simp at hx),rfl,e6⟩
structure TSd (was:List Nd) (d:Dsk):Prop where
 wf1:Wfr was
 wf2:Wfr d.m.log.nodes
 sm1:SmN was
 sm2:SmN d.m.log.nodes
 len:was.length≤1000000
 dir:∀w∈d.m.watches,dirI w.dir=true
theorem aPh{i j:Nat}{c:Cal}{d:Dsk}{G:AHeap}(hb:KB i j c d G)(hs:DS d.m)(f:Bool)(was:List Nd)(ht:TSd was d):
  ACalls Tryz.prog 98 [.ref i 0 0,.sl f (was.map ndA)] G (fun v H'=>v=.tup []∧H'=oL G i j c (zH was d)):=by
 refine aF Tryz.func98 ?_;have r0:=hb.b1;have r1:=aG hb.b1 trivial;have r2:=aG hb.b2 trivial;have hne:=hb.ne;have hl1:=hb.lt1;have hl2:=hb.lt2;have r3:=hb.r3;have r4:=hb.r4;have hnl:=aC G i;simp only[dkC]at r0 r1;have qs:=tZ hl1 hl2 hne rfl;have hgw:=hs.watches;have hn2:=hs.nodes;repeat' first|(refine gS ?_;simp only[go_sem,r0,r1,r2,r3,r4,hnl,qs,aC])|refine gA ?_|(refine gD ?_ ?_<;>intro h<;>try exact aA h)|fail
 refine aR (tD false d.m.watches (by omega) _) (cO) ?_
 rintro v H' ⟨rfl,rfl⟩;simp only[go_sem,r0,r1,r2,r3,r4,hnl,qs,aC];repeat' first|(refine gS ?_;simp only[go_sem,r0,r1,r2,r3,r4,hnl,qs,aC])|refine gA ?_|(refine gD ?_ ?_<;>intro h<;>try exact aA h)|fail
 obtain⟨T,hT⟩:∃T,T=aKI was d.m.log.nodes:=⟨_,rfl⟩;obtain⟨W,hW⟩:∃W:Nat→List Wch,W=fun k=>(d.m.watches.take k).map T++d.m.watches.drop k:=⟨_,rfl⟩
 have hWl:∀k,(W k).length=d.m.watches.length:=fun k=>by rw[hW];simp only[zAa,zAn,zAL,zAX];omega
 obtain⟨n,hn⟩:∃n,n=d.m.watches.length:=⟨_,rfl⟩;rw[←hn]at hWl hgw ⊢;obtain⟨X,hX⟩:∃X:List AV,X=[.sl false (d.m.log.entries.map iB),.sl false (d.m.log.nodes.map ndA),.int .i64 d.m.seen,.int .i64 d.m.rep,.sl false (d.m.snaps.map iG),.osl 4 G.length 1 0 n n,.int .i64 d.m.next,
  .int .i64 d.a.err,.str d.a.data,.sl false (d.a.names.map AV.str),.int .i64 d.a.n,.sl false (d.a.events.map fF),
  .int .i64 c.kind,.str c.path,.str c.to,.str c.data,.int .i64 c.n,.osl 7 j (d.ops.length+1) 0 d.ops.length d.ops.length]:=⟨_,rfl⟩
 refine aI (ι:=Nat) (fun k=>[(0,.ref i 0 0),(1,.sl f (was.map ndA)),(21,.int .i64 n),(22,.int .i64 k)]) (fun k=>aB G i (.cells 0 X)++[.cells 1 (flA dJ (W k))]) (fun k=>k≤n) (fun k=>n-k) 0 (zAo _) ?_ ?_ ?_
 ·simp[go_sem]
 ·rw[hX,hW];simp
 intro k hk;by_cases hlt:k<n
 ·have hWk:W k=(d.m.watches.take k).map T++d.m.watches[k]::d.m.watches.drop (k+1):=by rw[hW];simp only;rw[zAi (by omega)]
  have hWs:W (k+1)=(d.m.watches.take k).map T++T d.m.watches[k]::d.m.watches.drop (k+1):=by rw[hW];simp only;rw[zAk (by omega),zA9,zAr];rfl
  obtain⟨w,hw⟩:∃w,w=d.m.watches[k]:=⟨_,rfl⟩;rw[←hw]at hWk hWs;have hwm:w∈d.m.watches:=by rw[hw];exact zAK _
  obtain⟨A,hA⟩:∃A,A=(d.m.watches.take k).map T:=⟨_,rfl⟩;have hAl:A.length=k:=by rw[hA,zAn,zAL];omega
  rw[←hA]at hWk hWs;have hlA:=aU (enc:=dJ) (s:=4) (fun _=>rfl) A
  rw[hAl]at hlA;have hfl:flA dJ (W k)=flA dJ A++(.int .i64 w.n::.int .i64 w.dir::.sl false (w.evs.map fF)::.bool w.over::flA dJ (d.m.watches.drop (k+1))):=by rw[hWk,cB,fG];rfl
  have hfn:(flA dJ (W k)).length=n * 4:=by rw[aU (s:=4) (fun _=>rfl),hWl]
  have hdr:∀q,List.drop (k * 4+q) (flA dJ (W k))=List.drop q (.int .i64 w.n::.int .i64 w.dir::.sl false (w.evs.map fF)::.bool w.over::flA dJ (d.m.watches.drop (k+1))):=fun q=>by
   rw[hfl,←hlA,List.drop_append];simp
  have hp1:List.take 2 (List.drop (k * 4+2) (flA dJ (W k)))=[.sl false (w.evs.map fF),.bool w.over]:=by rw[hdr];rfl
  have hp2:(flA dJ (W k)).getD (k * 4+1) .top=.int .i64 w.dir:=by
   rw[zAh,←List.head?_drop,hdr];rfl
  have hdi:=ht.dir w hwm;have hdf:=aSV f false was d.m.log.nodes w.dir ht.wf1 ht.wf2 hdi (by have:=ht.len;omega) (by omega) ht.sm1 ht.sm2
  obtain⟨D,hD⟩:∃D,D=aCj (iL was w.dir) (iL d.m.log.nodes w.dir):=⟨_,rfl⟩;rw[←hD]at hdf;have hDl:D.length≤1073741824:=by
   have h1:=aIW (iL was w.dir) (iL d.m.log.nodes w.dir);have h2:=aBw ht.wf1 hdi;have h3:=aBw ht.wf2 hdi;have:=ht.len;rw[hD];omega
  have hle:=hs.evs w hwm;have hpt:=aSU false false w.over w.evs D (by omega) hDl
  have hTw:T w={w with evs:=(tO w.evs w.over D).1,over:=(tO w.evs w.over D).2}:=by rw[hT,hD];rfl
  have hsp:bG (flA dJ (W k)) (k * 4+2) [.sl false ((tO w.evs w.over D).1.map fF),.bool (tO w.evs w.over D).2]=flA dJ (W (k+1)):=by
   have e:=cD (A:=flA dJ A++[.int .i64 w.n,.int .i64 w.dir]) (B:=.sl false (w.evs.map fF)::.bool w.over::flA dJ (d.m.watches.drop (k+1))) (off:=k * 4+2) (X:=[.sl false ((tO w.evs w.over D).1.map fF),.bool (tO w.evs w.over D).2]) (by simp[hlA])
   rw[hfl];rw[show flA dJ A++[AV.int .i64 w.n,.int .i64 w.dir]++(.sl false (w.evs.map fF)::.bool w.over::flA dJ (d.m.watches.drop (k+1)))=flA dJ A++(.int .i64 w.n::.int .i64 w.dir::.sl false (w.evs.map fF)::.bool w.over::flA dJ (d.m.watches.drop (k+1))) by simp]at e
   rw[e,hWs,cB,fG,hTw];simp[dJ,AV.cells]
  have hli:decide ((k:Int)<(n:Int))=true:=dT;repeat' first|((first|refine mx [5] zT ?_|refine gS ?_);simp only[go_sem,r0,r1,r2,r3,r4,hnl,qs,aC,hX,hli,hp1,hp2,hfn,hsp])|refine gA ?_|(refine gD ?_ ?_<;>intro h<;>try exact aA h)|fail
  exact⟨k+1,hlt,by omega,zAx _ (aS hlt (by omega)),rfl⟩
 ·have hke:k=n:=by omega
  have hli:decide ((k:Int)<(n:Int))=false:=dF;repeat' first|(refine gS ?_;simp only[go_sem,r0,r1,r2,r3,r4,hnl,qs,aC,hli])|refine gA ?_|(refine gD ?_ ?_<;>intro h<;>try exact aA h)|fail
  have hWn:W k=(zH was d).m.watches:=by
   rw[hW,hke,hn];simp only[zAD,zBp,zAd];rw[hT];rfl
  rw[hWn];subst hX;refine aPg hb rfl rfl ?_;unfold dkC;repeat' first|exact bN|refine aT ?_ ?_|exact .cl _ (.int _ _)|exact .cl _ (.str _)|exact .cl _ (yE _ _ _)|exact .cl _ (yD _ _ _)|exact .cl _ (yF _ _ _)|exact .cl _ (yG _ _ _)|exact .cl _ (yH _ _ _)|exact .cl _ (yI _ _ _)|exact .cl _ (.osl _ _ _ _ _ _ hl2)
  exact qN (zAf _) (by first|(simp only[go_sem,r0,r1,r2,r3,r4,hnl,qs,aC];done)|(simp only[go_sem,r0,r1,r2,r3,r4,hnl,qs,aC];rfl)) (by rw[←hWn,hWl]) (fun _=>rfl) (fun x=>by simp only[go_sem])
end
end Go.Proofs.YtennnelammaapaaGreatDoor
