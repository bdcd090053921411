/- What the functions of this seat answer (37 of 38). No condition. -/
import Derived.Test.YtennnelammaapaaGreatDoorWorkBJ
set_option linter.unusedSimpArgs false
set_option linter.unusedVariables false
set_option maxRecDepth 100000
set_option maxHeartbeats 16000000
namespace Go.Proofs.YtennnelammaapaaGreatDoor
section
theorem aS5{i j:Nat}{who:Nat}{u:Trn}{x:Cor}{G:AHeap}(hb:SB i j who u x G)(hz:CZ x)(hm:MI x.m){t:Thr}(ht:x.ths[who]?=some t)(hc:CS t.call)(hu:u=⟨3,0⟩)(ho:x.ops.length≤1000)(han:(doM x.m t.call).2.1.names.length≤1048576∧(doM x.m t.call).2.1.events.length≤1048576)(hA:t.call.kind=13→(doM x.m t.call).2.1.err=0→AnewZ who (kG who x (doM x.m t.call))):yN Tryz.prog 57 [] i j who u (aFH who t.call x) G:=by
 refine aO Tryz.func57 ?_;subst hu;have r0:=hb.b1;have r1:=aG hb.b1 trivial;have r2:=hb.b2;have r7:=aG hb.b2 trivial;have r3:=hb.r3;have r4:=hb.r4;have r5:=hb.r5;have r6:=hb.r6;simp only[stC]at r0 r1 r5 r6;have qs:=qT hb.lt1 hb.lt2 hb.ne;have hk:=(eT.1 ht).1;have hln:=aU (enc:=thr) (s:=18) (fun _=>rfl) x.ths
 have hca:=aHB ht;have hdo:=aWb false false false false x.m hm t.call hc;unfold aFH;obtain⟨⟨m,a,o⟩,hr⟩:∃r,doM x.m t.call=r:=⟨_,rfl⟩;rw[hr]at hdo han hA ⊢;simp only[mdA,mdF,dS,doV,anA,AV.cells]at hdo hca;have hz1:((0:Int)≤(who:Int)∧(who:Int)<(x.ths.length:Int))=True:=zAC ⟨by omega,by omega⟩
 have hz2:(who * 18+5≤x.ths.length * 18)=True:=zAC (by omega)
 have hol:o.length≤1000:=by
  have h1:=aSx hm t.call;have h2:=(aVQ hm t.call).cap;rw[hr]at h1 h2;simp only at h1 h2;omega
 have hcc:=aIZ true false false x.ops o (by omega) (by omega)
 obtain⟨y1,hy1⟩:∃y1,{t with ans:=a}=y1:=⟨_,rfl⟩;obtain⟨y2,hy2⟩:∃y2,{y1 with mark:=x.time}=y2:=⟨_,rfl⟩;obtain⟨y3,hy3⟩:∃y3,{y2 with upto:=((x.ops++o).length:Int)}=y3:=⟨_,rfl⟩;have ht2:x.ths[who]=t:=(eT.1 ht).2;have p1:=nW (enc:=thr) (s:=18) (f:=13) (X:=[.int .i64 a.err,.str a.data,.sl false (a.names.map AV.str),.int .i64 a.n,.sl false (a.events.map fF)]) (fun _=>rfl) hk (by simp) y1 (by rw[ht2,←hy1];rfl)
 have p2:=nW (enc:=thr) (s:=18) (f:=11) (X:=[.int .i64 x.time]) (D:=x.ths.set who y1) (k:=who) (fun _=>rfl) (by rw[zAG];exact hk) (by simp) y2 (by rw[zBj,←hy2];rfl)
 have p3:=nW (enc:=thr) (s:=18) (f:=9) (X:=[.int .i64 ((x.ops++o).length:Int)]) (D:=x.ths.set who y2) (k:=who) (fun _=>rfl) (by rw[zAG];exact hk) (by simp) y3 (by rw[zBj,←hy3];rfl)
 rw[List.set_set]at p2 p3;have hl1:∀y,(flA thr (x.ths.set who y)).length=x.ths.length * 18:=fun y=>by rw[aU (enc:=thr) (s:=18) (fun _=>rfl),zAG]
 have hz3:(who * 18+18≤x.ths.length * 18)=True:=zAC (by omega)
 have hz4:(who * 18+12≤x.ths.length * 18)=True:=zAC (by omega)
 have hz5:(who * 18+10≤x.ths.length * 18)=True:=zAC (by omega)
 simp only[zAa]at p3;repeat' first|((first|refine jV (id:=1) [.free,.pure 3,.pure 3,.pure 3,.pure 3,.free,.pure 3,.pure 3,.pure 3,.pure 3,.free,.free,.free,.free] [.eff [],.eff [],.free] 14 31 66 3 4 pP rfl (by kernel_rfl) (by kernel_rfl) (by kernel_rfl) (by kernel_rfl) ?_|refine gS ?_);simp only[go_sem,r0,r1,r2,r3,r4,r5,r6,r7,qs,aC,hln,hca,hz1,hz2,hz3,hz4,hz5,hl1,p1,p2,p3])|refine gA ?_|(refine gD ?_ ?_<;>intro h<;>try exact aA h)|fail
 obtain⟨x2,hx2⟩:∃x2:Cor,x2={x with m:=m,ops:=x.ops++o,ths:=x.ths.set who y3}:=⟨_,rfl⟩;have hst:lP G i j who ⟨3,0⟩ x2=aB (aB G j (.cells 1 (flA thr x2.ths))) i (.cells 0 (stC j who ⟨3,0⟩ x2)):=rfl;obtain⟨L,hL⟩:∃L,[ABlk.cells 2 [.sl false (m.log.entries.map iB),.sl false (m.log.nodes.map ndA),.int .i64 m.seen,.int .i64 m.rep,.sl false (m.snaps.map iG),.sl false (m.watches.map dJ),.int .i64 m.next],ABlk.cells 2 [.int .i64 a.err,.str a.data,.sl false (a.names.map AV.str),.int .i64 a.n,.sl false (a.events.map fF)]]=L:=⟨_,rfl⟩;have hx2s:=hx2;rw[hx2]at hst;simp only[stC,zAG]at hst;rw[←hst,←hx2,hL];have hs0:=hz.th _ (zAp ht);have hy:y3.call=t.call∧y3.has=t.has∧y3.ans=a:=by rw[←hy3,←hy2,←hy1];exact⟨rfl,rfl,rfl⟩
 have ht3:x2.ths[who]?=some y3:=by rw[hx2];exact zAU hk
 have hb2:=hb.put x2;refine aR (pA (hb2.app L) (by rw[hx2];simp only[zAG];exact hz.n) ht3 ⟨by rw[hy.1];exact hs0.1,by rw[hy.2.1];exact hs0.2.1,by rw[hy.2.2];exact han.1,by rw[hy.2.2];exact han.2⟩) cO ?_
 rintro v H' ⟨rfl,rfl⟩;rw[hb.next];rw[fY ht3];obtain⟨x3,hx3⟩:∃x3:Cor,x3={x2 with ths:=x2.ths.set who (afterT y3 ⟨3,0⟩)}:=⟨_,rfl⟩;rw[←hx3];have hb3:=(hb.put x3).app L;have hx3t:x3.ths=x.ths.set who (afterT y3 ⟨3,0⟩):=by rw[hx3,hx2];simp only[List.set_set]
 have c1:=hb3.b1;have c2:=hb3.b2;have c3:∀k,hget (lP G i j who ⟨3,0⟩ x3++L) (G.length+k)=L.getD k .gone:=fun k=>lT (nX ..)
 have hgv:(flA thr x3.ths).getD (who * 18) .top=.int .i64 t.call.kind:=by
  unfold flA;have:=kT (s:=18) (es:=x3.ths.map thr) (k:=who) (j:=0) (e:=thr (afterT y3 ⟨3,0⟩)) (x:=.int .i64 (afterT y3 ⟨3,0⟩).call.kind) (fun e he=>by(obtain⟨x, -,rfl⟩:=zAm.1 he;rfl)) (by rw[zAP,hx3t,zAU hk];rfl) rfl
  rw[zCC]at this;rw[zAh,this,←hy.1];rfl
 have hl3:(flA thr x3.ths).length=x.ths.length * 18:=by rw[hx3t];exact hl1 _
 have hxl:x3.ths.length=x.ths.length:=by rw[hx3t,zAG]
 have hz6:(who * 18<x.ths.length * 18)=True:=zAC (by omega)
 rw[←hL]at c1 c2 c3 ⊢;simp only[stC,hxl]at c1;have hfin:kG who x (m,a,o)=x3:=by
  unfold kG;rw[fY ht,hx3,hx2];simp only[List.set_set];rw[←hy3,←hy2,←hy1];rfl
 rw[hfin];simp only[go_sem];by_cases k1:t.call.kind=13
 ·have d1:decide (t.call.kind=13)=true:=zAj k1;by_cases k2:a.err=0
  ·have d2:decide (a.err=0)=true:=zAj k2;rw[zAl ⟨k1,k2⟩];repeat' first|((first|refine jV (id:=1) [.free,.pure 3,.pure 3,.pure 3,.pure 3,.free,.pure 3,.pure 3,.pure 3,.pure 3,.free,.free,.free,.free] [.eff [],.eff [],.free] 14 31 66 3 4 pP rfl (by kernel_rfl) (by kernel_rfl) (by kernel_rfl) (by kernel_rfl) ?_|refine gS ?_);simp only[go_sem,c1,c2,c3,hgv,hl3,hz1,hz6,d1,d2])|refine gA ?_|(refine gD ?_ ?_<;>intro h<;>try exact aA h)|fail
   rw[hL];have hA:=hA k1 k2;rw[hfin]at hA;refine aR (aPy hb3 _ rfl hA.z hA.p hA.t hA.d) cO ?_;rintro v H' ⟨rfl,rfl⟩;rw[hb.next];simp only[go_sem];repeat' first|(refine gS ?_;simp only[go_sem])|refine gA ?_|(refine gD ?_ ?_<;>intro h<;>try exact aA h)|fail
   exact iP hb rfl
  ·have d2:decide (a.err=0)=false:=zAg k2;rw[zAe fun h=>k2 h.2]
   repeat' first|((first|refine jV (id:=1) [.free,.pure 3,.pure 3,.pure 3,.pure 3,.free,.pure 3,.pure 3,.pure 3,.pure 3,.free,.free,.free,.free] [.eff [],.eff [],.free] 14 31 66 3 4 pP rfl (by kernel_rfl) (by kernel_rfl) (by kernel_rfl) (by kernel_rfl) ?_|refine gS ?_);simp only[go_sem,c1,c2,c3,hgv,hl3,hz1,hz6,d1,d2])|refine gA ?_|(refine gD ?_ ?_<;>intro h<;>try exact aA h)|fail
   exact iP hb rfl
 ·have d1:decide (t.call.kind=13)=false:=zAg k1;rw[zAe fun h=>k1 h.1]
  repeat' first|((first|refine jV (id:=1) [.free,.pure 3,.pure 3,.pure 3,.pure 3,.free,.pure 3,.pure 3,.pure 3,.pure 3,.free,.free,.free,.free] [.eff [],.eff [],.free] 14 31 66 3 4 pP rfl (by kernel_rfl) (by kernel_rfl) (by kernel_rfl) (by kernel_rfl) ?_|refine gS ?_);simp only[go_sem,c1,c2,c3,hgv,hl3,hz1,hz6,d1])|refine gA ?_|(refine gD ?_ ?_<;>intro h<;>try exact aA h)|fail
  exact iP hb rfl
end
section
def AnS(a:Ans):Prop:=a.names.length≤1000∧a.events.length≤1000
theorem aHC(e:Int):AnS (errA e):=⟨zAo _,zAo _⟩
theorem aMe(l:List Nd)(d:Int):(aKG l d).length≤l.length:=by
 unfold aKG;split
 ·rw[(qC _).length_eq,zAn];exact aUx l d
 ·exact zAo _
theorem aF8q{m:Mdl}(h:MI m){n:Int}{l:List Nd}(hl:rQ m n=some l):l.length≤200:=by
 unfold rQ at hl;split at hl
 ·cases hl;exact h.nodes.len
 ·obtain⟨s,hs,rfl⟩:=zAM.1 hl;exact(h.snap s (zAT hs)).len
theorem sO{e:Int}{d:Dsk}(h:e≠0):((e,d):Int×Dsk).1=0→AnS ((e,d):Int×Dsk).2.a:=fun q=>absurd q h
theorem aPz{m:Mdl}(h:MI m){c:Cal}(hc:chkC c=true):(jE c ⟨m,an0,[]⟩).1=0→AnS (jE c ⟨m,an0,[]⟩).2.a:=by
 have h0:∀{p:Prop},p→AnS an0:=fun _=>⟨zAo _,zAo _⟩
 have hk:=wE hc;unfold jE;by_cases k1:c.kind=1∨c.kind=2
 ·rw[zAl k1];rcases qI (c:=c) (d:=⟨m,an0,[]⟩) h with⟨e,he,e1⟩|⟨dir,s, -, -, -,hn,ho,e1⟩
  ·rw[e1];exact sO he
  ·rw[e1];exact h0
 rw[zAe k1];by_cases k3:c.kind=3
 ·rw[zAl k3];rcases nP (c:=c) (d:=⟨m,an0,[]⟩) h (wD hc k3)with⟨e,he,e1⟩|⟨id, -, -,hn,ho,e1⟩
  ·rw[e1];exact sO he
  ·rw[e1];exact h0
 rw[zAe k3];by_cases k4:c.kind=4
 ·rw[zAl k4];unfold aGY;split
  ·exact sO (by decide)
  ·split
   ·split
    ·exact sO (by decide)
    ·exact fun _=>⟨zAo _,zAo _⟩
   ·rename_i h;exact sO h
 rw[zAe k4];by_cases k5:c.kind=5
 ·rw[zAl k5];rcases qJ (c:=c) (d:=⟨m,an0,[]⟩) h with⟨e,he,e1⟩|⟨id,dir,s, -, -, -, -, -, -, -,hn,ho,e1⟩
  ·rw[e1];exact sO he
  ·rw[e1];exact h0
 rw[zAe k5];by_cases k6:c.kind=6
 ·rw[zAl k6];rcases lV (c:=c) (d:=⟨m,an0,[]⟩) h with⟨e,he,e1⟩|⟨id,s, -, -, -,hn,ho,e1⟩
  ·rw[e1];exact sO he
  ·rw[e1];exact h0
 rw[zAe k6];by_cases k7:c.kind=7
 ·rw[zAl k7];unfold lsD;split
  ·exact sO (by decide)
  ·rename_i l hl;split
   ·split
    ·exact fun _=>⟨zAO (aMe _ _) (zAO (aF8q h hl) (by decide)),zAo _⟩
    ·exact sO (by decide)
   ·rename_i h;exact sO h
 rw[zAe k7];by_cases k8:c.kind=8
 ·rw[zAl k8];unfold aCk;split
  ·exact sO (by decide)
  ·exact fun _=>⟨zAo _,zAo _⟩
 rw[zAe k8];by_cases k9:c.kind=9
 ·rw[zAl k9];unfold aCl;split
  ·exact sO (by decide)
  ·exact fun _=>⟨zAo _,zAo _⟩
 rw[zAe k9];by_cases k10:c.kind=10
 ·rw[zAl k10];unfold xS;split
  ·split
   ·split
    ·exact sO (by decide)
    ·exact fun _=>⟨zAo _,zAo _⟩
   ·exact sO (by decide)
  ·rename_i h;exact sO h
 rw[zAe k10];by_cases k11:c.kind=11
 ·rw[zAl k11];unfold aCm;split
  ·exact sO (by decide)
  ·rename_i w hw;exact fun _=>⟨zAo _,zAO (h.watch _ (zAT hw)).2.1 (by decide)⟩
 rw[zAe k11];by_cases k12:c.kind=12
 ·rw[zAl k12];exact fun _=>⟨zAo _,zAo _⟩
 rw[zAe k12];rcases rU (c:=c) (d:=⟨m,an0,[]⟩)with⟨e,he,e1⟩|⟨l,hr,hcap,e1⟩
 ·rw[e1];exact sO he
 ·rw[e1];exact fun _=>⟨zAo _,zAo _⟩
theorem aGg{m:Mdl}(h:MI m)(c:Cal):AnS (doM m c).2.1:=by
 unfold doM;split
 ·exact aHC _
 ·rename_i hc;split
  ·rename_i hw;have:=aPz h (by simpa using hc) hw
   split<;>exact this
  ·exact aHC _
theorem aMf(t:Tbl)(n k:Int):(aBP t n k).1.held.length≤t.held.length+1:=by
 unfold aBP;split
 ·simp
 ·split
  ·simp
  ·split<;>simp
theorem aCF(t:Tbl)(n k:Int):(bX t n k).1.held.length≤t.held.length:=by
 unfold bX;split
 ·rename_i h;have hm:(⟨k,n⟩:Hld)∈t.held:=by simpa using h
  have h1:=List.length_erase_of_mem hm;have h2:=List.length_pos_of_mem hm;split
  ·simp only;omega
  ·simp only[zAa,List.length_singleton];omega
 ·exact zAf _
theorem tL(n:Int):∀(l:List Hld) (s:Tbl×List Hld),(dropF n l s).1.held.length≤s.1.held.length∧(dropF n l s).2.length≤s.2.length+l.length
 |[],s=>⟨zAf _,zAf _⟩
 |h::l,s=>by
  have hf:=aCF s.1 n h.lock;unfold dropF;split
  ·split
   ·obtain⟨h1,h2⟩:=tL n l ((bX s.1 n h.lock).1,s.2);simp only[zAc]at h1 h2 ⊢;omega
   ·rename_i k hk;obtain⟨h1,h2⟩:=tL n l ((bX s.1 n h.lock).1,s.2++[⟨h.lock,k⟩]);simp only[zAc,zAa,zAv]at h1 h2 ⊢;omega
  ·obtain⟨h1,h2⟩:=tL n l s;simp only[zAc];omega
theorem aBz(t:Tbl)(n:Int):(dropT t n).1.held.length≤t.held.length∧(dropT t n).2.length≤t.held.length:=by
 obtain⟨h1,h2⟩:=tL n t.held (⟨t.held,t.waits.filter fun w=> !decide (w.thr=n)⟩,[])
 simp only[zAv,zBK]at h1 h2;exact⟨h1,h2⟩
theorem mAq{α:Type}[DecidableEq α]:∀{l k:List α},l.Nodup→(∀x∈l,x∈k)→l.length≤k.length
 |[],_,_,_=>zAo _
 |a::l,k,h,hs=>by
  rw[zB8]at h;have ha:=hs a (by simp)
  have h1:=mAq (k:=k.erase a) h.2 fun x hx=>(List.mem_erase_of_ne fun e=>h.1 (by rw[←e];exact hx)).2 (hs x (by simp[hx]))
  rw[List.length_erase_of_mem ha]at h1;have h2:=List.length_pos_of_mem ha;simp only[zAc];omega
theorem aMg{t:Tbl}{n:Nat}{has:Nat→List Int}(h:TI t n has):t.waits.length≤n:=by
 have h1:=mAq (l:=t.waits.map fun w=>w.thr.toNat) (k:=List.range n) (by
  unfold List.Nodup;rw[List.pairwise_map];refine h.waitU.imp_of_mem fun{a b} ha hb hne e=>hne ?_
  obtain⟨i,ei, -⟩:=h.waitH a ha;obtain⟨j,ej, -⟩:=h.waitH b hb;omega) fun x hx=>by
   obtain⟨w,hw,rfl⟩:=zAm.1 hx;obtain⟨i,ei,hi, -⟩:=h.waitH w hw;exact List.mem_range.2 (by omega)
 simpa using h1
theorem aHD{t:Tbl}{n:Nat}{has:Nat→List Int}(h:TI t n has){i:Nat}(hi:i<n):(has i).length≤t.held.length:=by
 have h1:=mAq (l:=(has i).map fun k=>(⟨k,i⟩:Hld)) (k:=t.held) (by
  unfold List.Nodup;rw[List.pairwise_map];exact(h.hasU i).imp fun h e=>h (Hld.mk.inj e).1) fun x hx=>by
   obtain⟨k,hk,rfl⟩:=zAm.1 hx;exact(h.heldH k i).2 ⟨i,rfl,hi,hk⟩
 simpa using h1
theorem aMh{x:Cor}(c:CI x):x.g.waits.length≤40:=by
 have h1:=mAq (l:=x.g.waits.map fun w=>w.thr.toNat) (k:=List.range x.ths.length) (by
  unfold List.Nodup;rw[List.pairwise_map];refine c.gu.imp_of_mem fun{a b} ha hb hne e=>hne ?_
  obtain⟨i, -,ei, -⟩:=c.gr a ha;obtain⟨j, -,ej, -⟩:=c.gr b hb;omega) fun x hx=>by
   obtain⟨w,hw,rfl⟩:=zAm.1 hx;obtain⟨i,t,ei,hi, -⟩:=c.gr w hw;have:=(eT.1 hi).1;exact List.mem_range.2 (by omega)
 have:=c.n;simp only[zAn,List.length_range]at h1;omega
def ThQ(t:Thr):Prop:=t.call.path.length≤1048576∧AnS t.ans
theorem aMi(t:Thr)(u:Trn):(afterT t u).call=t.call∧(afterT t u).ans=t.ans:=by
 unfold afterT
 (repeat' split)<;>exact⟨rfl,rfl⟩
theorem tM{t:Thr}(h:ThQ t)(u:Trn):ThQ (afterT t u):=by
 obtain⟨h1,h2⟩:=aMi t u;unfold ThQ;rw[h1,h2];exact h
theorem q_s{t:Thr}(h:ThQ t)(k:t.has.length≤1048576):ThS t:=⟨h.1,k,zAO h.2.1 (by decide),zAO h.2.2 (by decide)⟩
theorem iI{p:Thr→Prop}{l:List Thr}{n:Int}{f:Thr→Thr}(h:∀t∈l,p t)(hf:∀t∈l,p t→p (f t)):∀t∈mY l n f,p t:=fun t ht=>by
 obtain⟨i,hi⟩:=List.mem_iff_getElem?.1 ht;rw[aW5]at hi;obtain⟨u,hu,e⟩:=zAM.1 hi;have hm:=zAp hu;rw[←e];split
 ·exact hf _ hm (h _ hm)
 ·exact h _ hm
theorem aQJ{l:List Thr}(h:∀t∈l,ThQ t)(w:Hld):∀t∈vY l w,ThQ t:=iI h fun _ _ h=>tM h _
theorem aGh:∀(g:List Hld) {l:List Thr},(∀t∈l,ThQ t)→∀t∈g.foldl vY l,ThQ t
 |[],_,h=>h
 |w::g,_,h=>aGh g (aQJ h w)
theorem aGi{l:List Thr}(h:∀t∈l,ThQ t)(time n:Int):∀t∈kF time l n,ThQ t:=iI h fun _ _ h=>h
theorem aHE(time:Int):∀(ns:List Int) {l:List Thr},(∀t∈l,ThQ t)→∀t∈ns.foldl (kF time) l,ThQ t
 |[],_,h=>h
 |n::ns,_,h=>aHE time ns (aGi h time n)
theorem aDq(who:Nat):∀(ns:List Nat) (s:Tbl×List Thr),(∀t∈s.2,ThQ t)→(∀t∈(ns.foldl (mS who) s).2,ThQ t)∧(ns.foldl (mS who) s).1.held.length≤s.1.held.length
 |[],_,h=>⟨h,zAf _⟩
 |n::ns,s,h=>by
  have h1:(∀t∈(mS who s n).2,ThQ t)∧(mS who s n).1.held.length≤s.1.held.length:=by
   unfold mS;split
   ·exact⟨aGh _ (iI h fun _ _ h=>h),(aBz _ _).1⟩
   ·exact⟨h,zAf _⟩
  obtain⟨h2,h3⟩:=aDq who ns (mS who s n) h1.1;exact⟨h2,zAO h3 h1.2⟩
theorem aWd{l:List Thr}{b:Nat}(h:∀t∈l,t.has.length≤b)(w:Hld):∀t∈vY l w,t.has.length≤b+1:=iI (fun t ht=>zAO (h t ht) (zBO _)) fun t ht _=>by
 rw[(jF _ _).1,zAa];exact Nat.succ_le_succ (h t ht)
theorem aMj:∀(g:List Hld) {l:List Thr} {b:Nat},(∀t∈l,t.has.length≤b)→∀t∈g.foldl vY l,t.has.length≤b+g.length
 |[],_,_,h=>h
 |w::g,_,b,h=>by
  have:=aMj g (aWd h w);intro t ht;have:=this t ht;simp only[zAc];omega
theorem aQK{x:Cor}{q:Nat}(ti:TI x.t x.ths.length (hasC x.ths))(hn:x.ths.length≤40)(hh:x.t.held.length≤q)(hq:q≤100000)(hg:x.g.waits.length≤40)(ha:∀t∈x.ths,ThQ t):CZ x:=by
 refine⟨hn,fun t ht=>q_s (ha t ht) ?_,by omega,by have:=aMg ti;omega,by omega⟩
 obtain⟨i,hi⟩:=List.mem_iff_getElem?.1 ht;have:=aHD ti (eT.1 hi).1;rw[nS hi]at this;omega
structure CB (q:Nat) (x:Cor):Prop where
 ci:CI x
 held:x.t.held.length≤q
 q:∀t∈x.ths,ThQ t
theorem CB.cz{q:Nat}{x:Cor}(b:CB q x)(hq:q≤100000):CZ x:=aQK b.ci.ti b.ci.n b.held hq (aMh b.ci) b.q
theorem CB.tick{q:Nat}{x:Cor}(b:CB q x):CB q (zL x):=⟨b.ci.tick,b.held,b.q⟩
theorem CB.up{q r:Nat}{x:Cor}(b:CB q x)(h:q≤r):CB r x:=⟨b.ci,zAO b.held h,b.q⟩
theorem uS{r:Int}{x:Cor}(h:tP r=(x,0)):CB 0 x:=by
 refine⟨aSO h,?_,?_⟩;all_goals
  unfold tP at h;split at h
  ·rename_i h0;cases h;first|exact zAf _|exact fun t ht=>by cases ht
  ·rename_i h0;exact absurd (zAx Prod.snd h) h0
theorem CB.start{q:Nat}{x:Cor}(b:CB q x){k:Cal}(hk:CS k):CB q (eC x k).1:=by
 refine⟨b.ci.start hk,?_,?_⟩
 ·unfold eC;split<;>exact b.held
 ·unfold eC;split
  ·exact b.q
  ·intro t ht;rcases zAy.1 ht with h|h
   ·exact b.q t h
   ·rw[zAq]at h;subst h;exact⟨hk.path,zAo _,zAo _⟩
theorem aMk{q:Nat}{x:Cor}(b:CB q x)(who:Nat){r:Mdl×Ans×List Opn}(hr:AnS r.2.1):∀t∈(kG who x r).ths,ThQ t:=iI b.q fun t ht h=>tM (t:={t with ans:=r.2.1,mark:=x.time,upto:=((x.ops++r.2.2).length:Int)}) ⟨h.1,hr⟩ ⟨3,0⟩
structure CQ (q:Nat) (y:Cor):Prop where
 h:y.t.held.length≤q
 q:∀t∈y.ths,ThQ t
theorem aPA{q:Nat}{x:Cor}(b:CB q x)(full:Bool)(who:Nat):CQ q (mR full who x):=by
 unfold mR;split
 ·exact⟨b.held,aGi (iI (f:=fun t=>{t with ans:={an0 with err:=120}}) b.q fun t _ h=>⟨h.1,zAo _,zAo _⟩) _ _⟩
 ·exact⟨b.held,aHE _ _ b.q⟩
theorem aPB{q:Nat}{x:Cor}(b:CB q x)(who:Nat)(t:Thr)(u:Trn):CQ (q+1) (rT who t u x):=by
 have hh:=b.held;have h0:x.t.held.length≤q+1:=by omega
 unfold rT;by_cases k1:u.kind=1
 ·rw[zAl k1];have:=aMf x.t who u.lock;unfold vZ;split
  ·exact⟨by simp only;omega,iI (f:=fun t=>afterT t ⟨1,u.lock⟩) b.q fun t _ h=>tM h _⟩
  ·exact⟨by simp only;omega,b.q⟩
 rw[zAe k1];by_cases k2:u.kind=2
 ·rw[zAl k2];have:=aCF x.t who u.lock;unfold wA;split
  ·exact⟨by simp only;omega,iI b.q fun t _ h=>(tM h _:ThQ (afterT t _))⟩
  ·exact⟨by simp only;omega,aQJ (iI b.q fun t _ h=>(tM h _:ThQ (afterT t _))) _⟩
 rw[zAe k2];by_cases k3:u.kind=3
 ·rw[zAl k3];have hq:=aMk b who (aGg b.ci.mi t.call);unfold aFH;split
  ·obtain⟨a1,a2⟩:=aDq who (List.range (kG who x (doM x.m t.call)).ths.length) ((kG who x (doM x.m t.call)).t,(kG who x (doM x.m t.call)).ths) hq;exact⟨zAO a2 h0,a1⟩
  ·exact⟨h0,hq⟩
 rw[zAe k3];by_cases k4:u.kind=4
 ·rw[zAl k4];unfold aBk;split
  ·exact⟨h0,aGi b.q _ _⟩
  ·exact⟨h0,b.q⟩
 rw[zAe k4];by_cases k5:u.kind=5
 ·rw[zAl k5];exact⟨h0,iI (f:=fun t=>{afterT t ⟨5,0⟩with end_:=x.time}) b.q fun t _ h=>(tM h ⟨5,0⟩:ThQ (afterT t ⟨5,0⟩))⟩
 ·rw[zAe k5];exact⟨h0,b.q⟩
theorem CB.step{q:Nat}{x:Cor}(b:CB q x)(p:Int)(full:Bool):CB (q+1) (jL x p full):=by
 have h:CQ (q+1) (jL x p full):=by
  unfold jL;cases kY x p with
  |none=>exact⟨zAO b.held (zBO _),b.q⟩
  |some who=>
   simp only;unfold goC;split
   ·have:=aPA b.tick full who;exact⟨zAO this.h (zBO _),this.q⟩
   ·exact aPB b.tick _ _ _
 exact⟨b.ci.step p full,h.h,h.q⟩
theorem CB.anew{q:Nat}{x:Cor}(b:CB q x)(hq:q≤100000){who:Nat}{t:Thr}(ht:x.ths[who]?=some t):AnewZ who (kG who x (doM x.m t.call)):=by
 have hqs:=aMk b who (aGg b.ci.mi t.call);obtain⟨p1,p2,p3⟩:=aW6 b.ci ht (doM x.m t.call);have hh:(kG who x (doM x.m t.call)).t.held.length≤q:=b.held;have hl:(kG who x (doM x.m t.call)).ths.length=x.ths.length:=aAA _ _ _;have hgw:(kG who x (doM x.m t.call)).g.waits.length≤40:=show x.g.waits.length≤40 from aMh b.ci
 have hn:=b.ci.n;generalize kG who x (doM x.m t.call)=y at *;have key:∀k,k≤y.ths.length→CZ (anewX who y k)∧(anewX who y k).ths.length=y.ths.length∧(∀t∈(anewX who y k).ths,ThQ t)∧(anewX who y k).t.held.length≤q∧∀t∈(anewX who y k).ths,t.has.length≤q:=fun k hk=>by
  obtain⟨k1,k2, -, -⟩:=aV7 p1 p2 p3 k hk;obtain⟨a1,a2⟩:=aDq who (List.range k) (y.t,y.ths) hqs;have e:(anewX who y k).ths.length=y.ths.length:=k1.1;have ti:TI (anewX who y k).t (anewX who y k).ths.length (hasC (anewX who y k).ths):=by rw[e];exact k2
  have hd:(anewX who y k).t.held.length≤q:=zAO a2 hh;refine⟨aQK ti (by omega) hd hq hgw a1,e,a1,hd,fun t ht=>?_⟩
  obtain⟨i,hi⟩:=List.mem_iff_getElem?.1 ht;have:=aHD ti (eT.1 hi).1;rw[nS hi]at this;omega
 refine⟨fun k hk=>⟨(key k hk).1,(key k hk).2.1⟩,fun k t hk h=>((key k (by omega)).2.2.1 t (zAp h)).1,fun k p hk t h=>?_,fun k hk=>?_⟩
 ·obtain⟨-, -,k3,k4,k5⟩:=key k (by omega)
  have hd:=(aBz (anewX who y k).t k).2;refine q_s (aGh _ (iI (n:=k) (f:=rI) k3 fun _ _ h=>h) t h) ?_
  have:=aMj (((dropT (anewX who y k).t k).2.take p)) (iI (n:=k) (f:=rI) k5 fun _ _ _=>zAo _) t h
  rw[zAL]at this;omega
 ·have hd:=(aBz (anewX who y k).t k).2;have:=(key k (by omega)).2.2.2.1
  omega
end
section
theorem aMl{x:Cor}(c:CI x)(p:Int):(doneC x=true∧cW x=[]∧kY x p=none)∨(doneC x=false∧cW x≠[]∧∃who,kY x p=some who∧who∈cW x∧who<x.ths.length):=by
 cases h:doneC x with
 |true=>
  have:=aUB h;exact .inl ⟨rfl,this,by unfold kY;rw[zAl this]⟩
 |false=>
  have ha:=aIU c h;obtain⟨who,hp⟩:∃who,kY x p=some who:=by
   unfold kY;rw[zAe ha];exact⟨_,rfl⟩
  have hm:=tK hp;obtain⟨t,ht, -⟩:=aAz hm;exact .inr ⟨rfl,ha,who,hp,hm,(eT.1 ht).1⟩
theorem aGj(l:List Nd){t:Thr}(h:(nextT l t).kind=3):nextT l t=⟨3,0⟩:=by
 cases he:t.ended with
 |true=>
  have:nextT l t=⟨0,0⟩:=by unfold nextT;rw[zAl he]
  rw[this]at h;cases h
 |false=>
  rcases yB l he with q|q|q|q|q
  ·rw[q]at h;cases h
  ·rw[q]at h;cases h
  ·exact q
  ·rw[q]at h;cases h
  ·rw[q]at h;cases h
theorem aMm(x:Cor)(p:Int)(full:Bool):(jL x p full).ops=x.ops∨∃(who:Nat) (t:Thr),kY x p=some who∧x.ths[who]?=some t∧nextT x.m.log.nodes t=⟨3,0⟩∧(jL x p full).ops=x.ops++(doM x.m t.call).2.2:=by
 unfold jL;cases hp:kY x p with
 |none=>exact .inl rfl
 |some who=>
  obtain⟨t,ht, -⟩:=aAz (tK hp);have hgd:x.ths.getD who (th0 ca0)=t:=by rw[zAh,ht];rfl
  simp only;unfold goC;rw[hgd];split
  ·refine .inl ?_;unfold mR;split<;>rfl
  unfold rT;by_cases k1:(nextT x.m.log.nodes t).kind=1
  ·rw[zAl k1];refine .inl ?_;unfold vZ;split<;>rfl
  rw[zAe k1];by_cases k2:(nextT x.m.log.nodes t).kind=2
  ·rw[zAl k2];refine .inl ?_;unfold wA;split<;>rfl
  rw[zAe k2];by_cases k3:(nextT x.m.log.nodes t).kind=3
  ·rw[zAl k3];refine .inr ⟨who,t,rfl,ht,aGj _ k3,?_⟩;unfold aFH;split<;>rfl
  rw[zAe k3];by_cases k4:(nextT x.m.log.nodes t).kind=4
  ·rw[zAl k4];refine .inl ?_;unfold aBk;split<;>rfl
  rw[zAe k4];by_cases k5:(nextT x.m.log.nodes t).kind=5
  ·rw[zAl k5];exact .inl rfl
  ·rw[zAe k5];exact .inl rfl
structure GuardO (l:List Nd) (t:Thr) (o:Opn):Prop where
 from_:∀n,findI l o.node=some n→n.parent∈t.has
 to:o.kind=2∨o.parent=2∨o.parent∈t.has
 shape:turnsK t.call=true→(1:Int)∈t.has
theorem aMn{x:Cor}(c:CI x){t:Thr}(hn:nextT x.m.log.nodes t=⟨3,0⟩)(hk:t.call.kind≠13){o:Opn}(ho:o∈(doM x.m t.call).2.2):GuardO x.m.log.nodes t o:=by
 have hs:=aIE c.mi (wF hn).2 hn (.inl hk);have hfd:∀{n:Nd},findI x.m.log.nodes o.node=some n→fnd x.m.log.nodes o.node=some n:=fun h=>by
  unfold findI at h;split at h
  ·exact h
  ·cases h
 generalize(doM x.m t.call).2.2=ops at hs ho;have hsh:turnsK t.call=true→(1:Int)∈t.has:=fun ht=>(aDe (wF hn).2 hn).1 ht 1 (by simp[locksT])
 cases hs with
 |none=>cases ho
 |born o' n hk1 hp hnn ht hl hi hq hne h0 hc hd=>
  rw[zAq]at ho;subst ho;refine⟨fun m hm=>?_,.inr (.inr hp),hsh⟩
  have h1:=hfd hm;have h2:=zAT h1;have h3:=zBz h1;have:=(hnn m h2).1;simp only[zAF]at h3;omega
 |wrote o' hk1 hok n hf hp ht hl=>
  rw[zAq]at ho;subst ho;exact⟨fun m hm=>by rw[hfd hm]at hf;cases hf;exact hp,.inl hk1,hsh⟩
 |moved o' hk1 n hf hp hq ht h1 hr hl=>
  rw[zAq]at ho;subst ho;exact⟨fun m hm=>by rw[hfd hm]at hf;cases hf;exact hp,.inr hq,hsh⟩
end
end Go.Proofs.YtennnelammaapaaGreatDoor
