/- What the functions of this seat answer (31 of 38). No condition. -/
import Derived.Test.YtennnelammaapaaGreatDoorWorkAS
import Derived.Test.YtennnelammaapaaGreatDoorWorkBD
set_option linter.unusedSimpArgs false
set_option linter.unusedVariables false
set_option maxRecDepth 100000
set_option maxHeartbeats 16000000
namespace Go.Proofs.YtennnelammaapaaGreatDoor
section
def nV:List Pl:=[.free,.free,.pure 0,.free,.free,.pure 0,.eff [false,false],.free]
attribute [go_sem] nV
theorem aAB{α:Type}{enc:α→AV}{s:Nat}(hs:∀x,(enc x).cells.length=s){D:List α}{k:Nat}(h:k<D.length)(rest:List AV):List.take s (List.drop (k * s) (flA enc D++rest))=(enc D[k]).cells:=by
 have hl:=aU hs D;have h2:k * s+s≤D.length * s:=by rw[←Nat.succ_mul];exact zCq s h
 rw[List.drop_append_of_le_length (by omega),List.take_append_of_le_length (by rw[zAX];omega),iM hs h]
theorem aPi(l:List Hld)(p:Hld→Bool)(i v lc n:Nat)(hn:n=l.length)(hlc:n≤lc)(hl:n≤1073741824){fn:Fn}{fs cs:List AV}(rest:List AV)(H:AHeap)(hh:hget H i=.cells v (flA hdA l++rest))
  (hf:∀x,ACall Tryz.prog (.func fn fs cs) [hdA x] H (fun r G'=>r=.bool (p x)∧G'=H)):
  bH Tryz.prog 37 [.osl 2 i v 0 n lc,.func fn fs cs] H (.int .i64 (cQ p l)):=by
 refine fO Tryz.func37 ?_;have hln:(flA hdA l).length=n * 2:=by rw[aU (s:=2) (fun _=>rfl),hn]
 have hl2:∀k,k<n→k * 2+2≤(flA hdA l++rest).length:=fun k hk=>by rw[zAa,hln];omega
 have hf':=hf;simp only[hdA]at hf';repeat' first|(refine gS ?_;simp only[go_sem,hh])|refine gA ?_|(refine gD ?_ ?_<;>intro h<;>try exact aA h)|fail
 refine aI (ι:=Nat) (fun k=>[(0,.osl 2 i v 0 n lc),(1,.func fn fs cs),(7,.int .i64 n),(8,.int .i64 k)]) (fun _=>H) (fun k=>k≤n∧∀q (hk:q<k) (hk2:q<l.length),p l[q]=false) (fun k=>n-k) 0 ⟨zAo _,fun q hk=>by omega⟩ ?_ rfl ?_
 ·simp[go_sem]
 ·rintro k ⟨hk,hno⟩;by_cases hlt:k<l.length
  ·have hp:=aAB (enc:=hdA) (s:=2) (fun _=>rfl) hlt rest
   simp only[hdA,AV.cells]at hp;have hli:decide ((k:Int)<(n:Int))=true:=dT;have hw:=aS hlt (by omega)
   repeat' first|(refine gS ?_;simp only[go_sem,hh,hli,hp,hln])|refine gA ?_|(refine gD ?_ ?_<;>intro h<;>try exact aA h)|fail
   refine iV (hf' l[k]) ?_;simp only[go_sem];repeat' first|(refine gS ?_;simp only[go_sem])|refine gA ?_|(refine gD ?_ ?_<;>intro h<;>try exact aA h)|fail
   ·exact cL (.of (by rw[eV p l k hlt (fun q hq=>hno q hq (by omega)) (by assumption)]))
   ·refine⟨k+1,⟨by omega,fun q hq hq2=>?_⟩,by omega,zAx _ hw⟩
    by_cases e:q=k
    ·subst e;assumption
    ·exact hno q (by omega) (by omega)
  ·have hi':k=n:=by omega
   subst hi';have hli:decide ((k:Int)<(k:Int))=false:=by simp
   repeat' first|(refine gS ?_;simp only[go_sem,hh,hli])|refine gA ?_|(refine gD ?_ ?_<;>intro h<;>try exact aA h)|fail
   exact cL (.of (by rw[eW p l fun q hk=>hno q (by omega) hk]))
theorem aQH(w x:Hld):(decide (w.lock=x.lock)&&decide (w.thr=x.thr))=decide (w=x):=by cases w;cases x;simp
theorem aLQ(l:List Hld)(w:Hld)(i v lc n:Nat)(hn:n=l.length)(hlc:n≤lc)(hl:n≤1073741824)(rest:List AV)(H:AHeap)(hh:hget H i=.cells v (flA hdA l++rest)):
  bH Tryz.prog 114 [.osl 2 i v 0 n lc,hdA w] H (.int .i64 (cQ (fun x=>decide (w=x)) l)):=by
 refine fO Tryz.func114 ?_;have hln:(flA hdA l).length=n * 2:=by rw[aU (s:=2) (fun _=>rfl),hn]
 have hl2:∀k,k<n→k * 2+2≤(flA hdA l++rest).length:=fun k hk=>by rw[zAa,hln];omega
 have hh1:=aG hh trivial;repeat' first|(refine gS ?_;simp only[go_sem,hh,hdA])|refine gA ?_|(refine gD ?_ ?_<;>intro h<;>try exact aA h)|fail
 refine aI (ι:=Nat) (fun k=>[(0,.osl 2 i v 0 n lc),(3,.ref H.length 0 0),(7,.int .i64 n),(8,.int .i64 k)]) (fun _=>H++[.cells 0 [.int .i64 w.lock,.int .i64 w.thr]]) (fun k=>k≤n∧∀q (hk:q<k) (hk2:q<l.length),decide (w=l[q])=false) (fun k=>n-k) 0 ⟨zAo _,fun q hk=>by omega⟩ ?_ rfl ?_
 ·simp[go_sem]
 ·rintro k ⟨hk,hno⟩;by_cases hlt:k<l.length
  ·have hp:=aAB (enc:=hdA) (s:=2) (fun _=>rfl) hlt rest
   simp only[hdA,AV.cells]at hp;have hli:decide ((k:Int)<(n:Int))=true:=dT;have hw:=aS hlt (by omega)
   have hl3:=hl2 k (by omega)
   repeat' first|(refine gS ?_;simp only[go_sem,hh,hh1,hli,hp,hln])|refine gA ?_|(refine gD ?_ ?_<;>intro h<;>try exact aA h)|fail
   ·rw[aQH]at h;exact dY (.of (by rw[eV _ l k hlt (fun q hq=>hno q hq (by omega)) h]))
   ·rw[aQH]at h;refine⟨k+1,⟨by omega,fun q hq hq2=>?_⟩,by omega,zAx _ hw⟩
    by_cases e:q=k
    ·subst e;simpa using h
    ·simpa using hno q (by omega) hq2
  ·have hi':k=n:=by omega
   subst hi';have hli:decide ((k:Int)<(k:Int))=false:=by simp
   repeat' first|(refine gS ?_;simp only[go_sem,hh,hli])|refine gA ?_|(refine gD ?_ ?_<;>intro h<;>try exact aA h)|fail
   exact dY (.of (by rw[eW _ l fun q hk=>hno q (by omega) hk]))
theorem aLR(l:List Hld)(a i v lc n:Nat)(hn:n=l.length)(ha:a<n)(hl:lc≤1073741824)(rest:List AV)(H:AHeap)(hh:hget H i=.cells v (flA hdA l++rest))(hr:(flA hdA l++rest).length=lc * 2)(hpr:∀x∈rest,Pur x):
  ACalls Tryz.prog 115 [.osl 2 i v 0 n lc,.int .i64 a,.int .i64 ((a+1:Nat):Int)] H (fun r H'=>∃rest',r=.osl 2 i v 0 (n-1) lc∧H'=aB H i (.cells v (flA hdA (l.eraseIdx a)++rest'))∧(flA hdA (l.eraseIdx a)++rest').length=lc * 2∧∀x∈rest',Pur x):=by
 refine aO Tryz.func115 ?_;have hln:(flA hdA l).length=n * 2:=by rw[aU (s:=2) (fun _=>rfl),hn]
 have h1:=aG hh trivial;have d0:decide (((a:Nat):Int)=((a+1:Nat):Int))=false:=dF;repeat' first|((first|refine mx [5] nV ?_|refine gS ?_);simp only[go_sem,hh,hln,d0])|refine gA ?_|(refine gD ?_ ?_<;>intro h<;>try exact aA h)|fail
 have hnl:n≤lc:=by rw[zAa,hln]at hr;omega
 refine⟨⟨by omega,by omega,by omega,by omega⟩,?_⟩
 have hal:(a=lc)=False:=zDo (by omega)
 have hcut:List.take ((n-(a+1)) * 2) (List.drop ((a+1) * 2) (flA hdA l++rest))=flA hdA (l.drop (a+1)):=by
  have e:flA hdA l=flA hdA (l.take (a+1))++flA hdA (l.drop (a+1)):=by rw[←cB,zAS]
  have e1:(flA hdA (l.take (a+1))).length=(a+1) * 2:=by rw[aU (s:=2) (fun _=>rfl),zAL,zCb (by omega)]
  have e2:(flA hdA (l.drop (a+1))).length=(n-(a+1)) * 2:=by rw[aU (s:=2) (fun _=>rfl),zAX,hn]
  rw[e,zAr,←e1,List.drop_left,←e2,zBA]
 have hone:(flA hdA (l.drop (a+1))).all AV.one=true:=by
  rw[zAJ];intro x hx;unfold flA at hx;simp only[zBC,zAm]at hx;obtain⟨_,⟨y,_,rfl⟩,hx⟩:=hx;simp only[hdA,AV.cells,zAs,zAH,zBv]at hx;rcases hx with rfl|rfl<;>rfl
 obtain⟨R,hR,hRl,hRp⟩:∃R,bG (flA hdA l++rest) (a * 2) (flA hdA (l.drop (a+1)))=flA hdA (l.eraseIdx a)++R∧R.length=2+rest.length∧∀x∈R,Pur x:=by
  have e1:(flA hdA (l.take a)).length=a * 2:=by rw[aU (s:=2) (fun _=>rfl),zAL,zCb (by omega)]
  have e0:flA hdA l++rest=flA hdA (l.take a)++(flA hdA (l.drop a)++rest):=by rw[←zAr,←cB,zAS]
  have e2:=cD (A:=flA hdA (l.take a)) (B:=flA hdA (l.drop a)++rest) (off:=a * 2) (X:=flA hdA (l.drop (a+1))) e1;rw[←e0]at e2;refine⟨_,by rw[e2,List.eraseIdx_eq_take_drop_succ,cB,zAr],?_,fun x hx=>?_⟩
  rotate_left
  ·rcases zAy.1 (zBq hx)with hx|hx
   ·exact eY (fun x=>by simp only[go_sem]) _ x hx
   ·exact hpr x hx
  rw[zAX,zAa,aU (s:=2) (fun _=>rfl),aU (s:=2) (fun _=>rfl),zAX,zAX]
  omega
 have hil:=aV hh trivial;have q1:∀X,hget (aB H i (.cells v X)) i=.cells v X:=fun X=>aX hil _
 repeat' first|((first|refine mx [5] nV ?_|refine gS ?_);simp only[go_sem,hh,hln,d0,hal,hcut,hone,hR,zA3])|refine gA ?_|(refine gD ?_ ?_<;>intro h<;>try exact aA h)|fail
 have hlr:n * 2+rest.length=lc * 2:=by rw[←hln,←zAa];exact hr
 have e0:a+(n-(a+1))=n-1:=by omega
 refine⟨⟨by omega,by omega,by omega⟩,?_⟩
 rw[e0];have hel:(flA hdA (l.eraseIdx a)).length=(n-1) * 2:=by rw[aU (s:=2) (fun _=>rfl),List.length_eraseIdx,zAl (by omega),hn]
 have hz:∀Z:List AV,bG (flA hdA (l.eraseIdx a)++R) ((n-1) * 2) Z=flA hdA (l.eraseIdx a)++(Z++R.drop Z.length):=fun Z=>cD hel
 have hn1:((n-1:Nat):Int)=(n:Int)-1:=by omega
 repeat' first|((first|refine mx [5] nV ?_|refine gS ?_);simp only[go_sem,hh,hln,q1,hel,hRl,hz])|refine gA ?_|(refine gD ?_ ?_<;>intro h<;>try exact aA h)|fail
 rw[bE];have e1:n-(n-1)=1:=by omega
 rw[e1];have hrp:∀x∈([.int .i64 0,.int .i64 0]:List AV)++R.drop 2,Pur x:=fun x hx=>by
  rcases zAy.1 hx with hx|hx
  ·simp only[zAs,zAH,zBv]at hx;rcases hx with rfl|rfl<;>exact .int _ _
  ·exact hRp x (zBq hx)
 refine⟨_,[],.osl 2 i v 0 (n-1) lc,(zAd _).symm,by rw[aC],dW fun x hx=>?_,.cl _ (.osl _ _ _ _ _ _ hil),[.int .i64 0,.int .i64 0]++R.drop 2,rfl,rfl,?_,hrp⟩
 ·rcases zAy.1 hx with hx|hx
  ·exact(eY (fun x=>by simp only[go_sem]) _ x hx).cl _
  ·exact(hrp x hx).cl _
 ·simp only[zAa,zAc,zAv,zAX];omega
end
section
structure AddS (d0 d:Dsk) (k:Nat):Prop where
 ds:DS d.m
 ents:d.m.log.entries.length≤200
 nodes:d.m.log.nodes.length≤400+401 * k
 ops:d.ops.length≤d0.ops.length+k
theorem aIX{d0 d:Dsk}{k:Nat}(h:AddS d0 d k)(hk:k<200){o:Opn}(ho:OpS o):AddS d0 (rO d o).2 (k+1):=by
 obtain⟨l1,l2,l3⟩:=vK d.m.log o;have l4:=l3 h.ents;have h1:=h.nodes;have h2:=h.ops;have h3:=h.ents;unfold rO;split
 ·refine⟨⟨by simp only;omega,by simp only;omega,fun e he=>aKm d.m.log o OpS h.ds.ops ho e he,h.ds.snaps,h.ds.watches,h.ds.snap,h.ds.evs⟩,by simp only;omega,by simp only;omega,by simp only[zAa,zAc,zAv];omega⟩
 ·exact⟨h.ds,h3,by simp only;omega,by simp only;omega⟩
theorem aIY{b:Txt}{l:List Opn}(h:readO b=some l):l.length≤b.length:=by
 have key:∀(n:Nat) (b:Txt) (l:List Opn),nL n b=some l→l.length≤n:=by
  intro n;induction n with
  |zero=>
   intro b l h;unfold nL at h;split at h
   ·cases h;simp
   ·cases h
  |succ n ih=>
   intro b l h;unfold nL at h;split at h
   ·cases h;simp
   ·simp only[zBm]at h;obtain⟨⟨o,r⟩, -,h2⟩:=h;simp only[zAM]at h2;obtain⟨t,h3,rfl⟩:=h2;have:=ih r t h3;rw[zAc];omega
 exact key _ _ _ h
theorem aLS(f:Opn)(k:Nat)(o:Opn)(G:AHeap)(hk:hget G k=.cells 0 (opA o).cells):bH Tryz.prog 170 [opA f,.ref k 0 0] G (.bool (decide (f.at_=o.at_))):=by
 refine fO Tryz.func170 ?_;have hk1:=aG hk trivial;simp only[opA,AV.cells]at hk hk1;repeat' first|(refine gS ?_;simp only[go_sem,opA,hk,hk1])|refine gA ?_|(refine gD ?_ ?_<;>intro h<;>try exact aA h)|fail
 exact dY (.of (by rw[aJZ]))
theorem aPj(l:List Opn)(o:Opn)(i v lc n k:Nat)(hn:n=l.length)(hlc:n≤lc)(hl:n≤1073741824)(H:AHeap)(hh:hget H i=.cells v (flA opA l))(hk:hget H k=.cells 0 (opA o).cells):
  bH Tryz.prog 172 [.osl 7 i v 0 n lc,.func (.func 170) [] [.ref k 0 0]] H (.bool (l.any fun f=>decide (f.at_=o.at_))):=by
 refine fO Tryz.func172 ?_;have hx:=aOt l (fun f=>decide (f.at_=o.at_)) i v lc n hn hlc hl (fn:=.func 170) (fs:=[]) (cs:=[.ref k 0 0]) H hh (fun x=>Or.inl ⟨(cO),aLS x k o H hk⟩)
 repeat' first|((first|refine aZ (hx) (cO) ?_|refine bA (hx) (cO) ?_|refine bB (fun _=>hx) (cO) ?_|refine gS ?_);simp only[go_sem])|refine gA ?_|(refine gD ?_ ?_<;>intro h<;>try exact aA h)|fail
 exact cL (.of (by rw[jW]))
theorem aLT{i j:Nat}{c:Cal}{d:Dsk}{G:AHeap}(hb:KB i j c d G)(hs:DS d.m)(hc:CS c)(hl:d.ops.length≤1000)(hN:d.m.log.entries.length≤200∧d.m.log.nodes.length≤400):aEv Tryz.prog 131 i j c (xT c d) G:=by
 refine aO Tryz.func131 ?_;have r0:=hb.b1;have r1:=aG hb.b1 trivial;have r2:=aG hb.b2 trivial;have hne:=hb.ne;have hl1:=hb.lt1;have hl2:=hb.lt2;have r3:=hb.r3;have r4:=hb.r4;have hnl:=aC G i;simp only[dkC]at r0 r1;have qs:=tZ hl1 hl2 hne rfl;unfold xT;have hrd:=aLu c.data (by have:=hc.data;omega)
 unfold aFV at hrd;cases hr:readO c.data with
 |none=>
  simp only[hr]at hrd;repeat' first|(refine gS ?_;simp only[go_sem,r0,r1,r2,r3,r4,hnl,qs,aC])|refine gA ?_|(refine gD ?_ ?_<;>intro h<;>try exact aA h)|fail
  exact aHg hb rfl hb.own.symm
 |some l=>
  simp only[hr]at hrd ⊢;obtain⟨z,hz⟩:∃z,z=(if(200:Int)<(d.m.log.entries.length:Int)+((freshN d.m.log [] l).length:Int)then(193,d)else
   if(jZ d (freshN d.m.log [] l)).1=0 then
    (0,{(jZ d (freshN d.m.log [] l)).2 with a:={(jZ d (freshN d.m.log [] l)).2.a with n:=(freshN d.m.log [] l).length},m:={(jZ d (freshN d.m.log [] l)).2.m with seen:=l.foldl (fun n o=>kX n o.at_) d.m.seen}})
   else jZ d (freshN d.m.log [] l)):=⟨_,rfl⟩
  rw[←hz];have hlb:l.length≤1048576:=zAO (aIY hr) hc.data;have hlo:∀o∈l,OpS o:=fun o ho=>aK1 (wC hr o ho)
  repeat' first|(refine gS ?_;simp only[go_sem,r0,r1,r2,r3,r4,hnl,qs,aC])|refine gA ?_|(refine gD ?_ ?_<;>intro h<;>try exact aA h)|fail
  refine jR 6 7 rfl ?_;obtain⟨fr,hfr⟩:∃fr,fr=freshN d.m.log [] l:=⟨_,rfl⟩;obtain⟨sn,hsn⟩:∃sn,sn=l.foldl (fun n o=>kX n o.at_) d.m.seen:=⟨_,rfl⟩
  rw[←hfr,←hsn]at hz;refine gB (ι:=AHeap) (fun M=>[(0,.ref i 0 0),(5,.int .i64 sn),(6,.osl 7 G.length (fr.length+1) 0 fr.length fr.length)]) (fun M=>G++(.cells (fr.length+1) (flA opA fr)::M)) (fun _=>fr.length≤l.length) ?_ fun M hfl=>?_
  ·refine aI (ι:=Nat×Int×List Opn×AHeap) (fun s=>[(0,.ref i 0 0),(5,.int .i64 s.2.1),(6,.osl 7 G.length (s.2.2.1.length+1) 0 s.2.2.1.length s.2.2.1.length),(29,.sl false (l.map opA)),(30,.int .i64 l.length),(31,.int .i64 s.1)])
    (fun s=>G++(.cells (s.2.2.1.length+1) (flA opA s.2.2.1)::s.2.2.2)) (fun s=>s.1≤l.length∧s.2.2.1.length≤s.1∧fr=freshN d.m.log s.2.2.1 (l.drop s.1)∧sn=(l.drop s.1).foldl (fun n o=>kX n o.at_) s.2.1) (fun s=>l.length-s.1) (0,d.m.seen,[],[]) ⟨zAo _,zAf _,hfr,hsn⟩ ?_ rfl ?_
   ·simp[go_sem]
   rintro⟨k,s,acc,M⟩ ⟨hk,hak,hf1,hf2⟩;simp only at hk hak hf1 hf2 ⊢;obtain⟨G2,hG⟩:∃G2,G++(.cells (acc.length+1) (flA opA acc)::M)=G2:=⟨_,rfl⟩;rw[hG];have g0:hget G2 G.length=.cells (acc.length+1) (flA opA acc):=by rw[←hG];simp only[go_sem]
   have g1:=aG g0 trivial;have g2:=cC g0 trivial;have gs:∀X,aB G2 G.length X=G++(X::M):=fun X=>by rw[←hG];simp only[go_sem]
   have hb2:KB i j c d G2:=hG▸hb.app _;have p0:=hb2.b1;have p1:=aG hb2.b1 trivial;simp only[dkC]at p0 p1;by_cases hlt:k<l.length
   ·have hdr:=zAi hlt;rw[hdr,freshN]at hf1;rw[hdr,zBy]at hf2;have hgd:=aN opA hlt;obtain⟨o,ho⟩:∃o,o=l[k]:=⟨_,rfl⟩;rw[←ho]at hf1 hf2 hgd;simp only[opA]at hgd;have hli:decide ((k:Int)<(l.length:Int))=true:=dT;have hse:=aOn s o.at_ true;have hha:=aQs false false d.m.log o.at_;simp only[lgF,stA]at hha;have hw:=aS hlt (by omega)
    have hfl:=aU (enc:=opA) (s:=7) (fun _=>rfl) acc
    have hop:=aPj acc o G.length (acc.length+1) acc.length acc.length G2.length rfl (zAf _) (by omega) (G2++[.cells 0 [.int .i64 o.at_.c,.int .i64 o.at_.r,.int .i64 o.kind,.int .i64 o.node,.int .i64 o.parent,.str o.name,.str o.data]]) (g1 _) (eZ _ _)
    have hq1:(∀e,e=AV.agg [.int .i64 o.at_.c,.int .i64 o.at_.r,.int .i64 o.kind,.int .i64 o.node,.int .i64 o.parent,.str o.name,.str o.data]→e.cells.length=7)=True:=zAC (fun e he=>by rw[he];rfl)
    have hl8:((acc.length+1) * 72≤140737488355328)=True:=zAC (by omega)
    cases hA:lO d.m.log.entries o.at_ with
    |true=>
     rw[hA]at hha hf1;repeat' first|(refine gS ?_;simp only[go_sem,p0,p1,g0,g1,g2,hgd,hli,hlt])|refine gA ?_|(refine gD ?_ ?_<;>intro h<;>try exact aA h)|fail
     exact⟨(k+1,kX s o.at_,acc,M++[.cells 0 (opA o).cells]),⟨hlt,by simp only;omega,by simpa using hf1,hf2⟩,by simp only;omega,⟨rfl,rfl,zAx _ hw⟩,by show G2++[.cells 0 (opA o).cells]=_;rw[←hG];simp⟩
    |false=>
     rw[hA]at hha hf1;cases hB:acc.any (fun f=>decide (f.at_=o.at_))with
     |true=>
      rw[hB]at hop hf1;repeat' first|((first|refine aZ (hop) (cO) ?_|refine bA (hop) (cO) ?_|refine bB (fun _=>hop) (cO) ?_|refine gS ?_);simp only[go_sem,p0,p1,g0,g1,g2,hgd,hli,hlt])|refine gA ?_|(refine gD ?_ ?_<;>intro h<;>try exact aA h)|fail
      exact⟨(k+1,kX s o.at_,acc,M++[.cells 0 (opA o).cells]),⟨hlt,by simp only;omega,by simpa using hf1,hf2⟩,by simp only;omega,⟨rfl,rfl,zAx _ hw⟩,by show G2++[.cells 0 (opA o).cells]=_;rw[←hG];simp⟩
     |false=>
      rw[hB]at hop hf1;repeat' first|((first|refine aZ (hop) (cO) ?_|refine bA (hop) (cO) ?_|refine bB (fun _=>hop) (cO) ?_|refine gS ?_);simp only[go_sem,p0,p1,g0,g1,g2,hgd,hli,hlt,hq1,hl8,hfl])|refine gA ?_|(refine gD ?_ ?_<;>intro h<;>try exact aA h)|fail
      refine⟨(k+1,kX s o.at_,acc++[o],M++[.cells 0 (opA o).cells]),⟨hlt,by simp only[zAa,zAc,zAv];omega,by simpa using hf1,hf2⟩,by simp only;omega,⟨rfl,?_,zAx _ hw⟩,?_⟩
      ·simp
      ·rw[gs];simp[cB,fG,aC5,opA,AV.cells]
   ·have hke:k=l.length:=by omega
    have hli:decide ((k:Int)<(l.length:Int))=false:=dF;repeat' first|(refine gS ?_;simp only[go_sem,hli])|refine gA ?_|(refine gD ?_ ?_<;>intro h<;>try exact aA h)|fail
    have hfe:acc=fr:=by rw[hf1,hke,zBp];rfl
    have hse:s=sn:=by rw[hf2,hke,zBp];rfl
    rw[←hfe,←hse];exact⟨M,by omega,⟨rfl,rfl⟩,hG.symm⟩
  refine oM [6] (fr.map opA) (v:=fr.length+1) (lc:=fr.length) (i:=G.length) (s:=7) (cs:=flA opA fr) (by intro t ht;simp only[zAq]at ht;subst ht;rw[zAn];simp only[go_sem]) (by simp only[go_sem]) (by omega) rfl (fun e he=>by(obtain⟨x, -,rfl⟩:=zAm.1 he;rfl)) ?_
  simp only[go_sem,zAw,zAZ];obtain⟨M1,hM1⟩:∃M1:AHeap,M1=.gone::M:=⟨_,rfl⟩;rw[←hM1];have hE:=hN.1;have hwA:IntKind.i64.wrap ((d.m.log.entries.length:Int)+(fr.length:Int))=(d.m.log.entries.length:Int)+(fr.length:Int):=wI;by_cases h200:(200:Int)<(d.m.log.entries.length:Int)+(fr.length:Int)
  ·have h2:decide ((200:Int)<(d.m.log.entries.length:Int)+(fr.length:Int))=true:=zAj h200;rw[zAl h200]at hz;subst hz;repeat' first|(refine gS ?_;simp only[go_sem,r0,r1,r2,r3,r4,hnl,qs,aC,hwA,h2])|refine gA ?_|(refine gD ?_ ?_<;>intro h<;>try exact aA h)|fail
   exact qK hb rfl hb.own.symm
  have h2:decide ((200:Int)<(d.m.log.entries.length:Int)+(fr.length:Int))=false:=zAg h200;rw[zAe h200]at hz;have hfo:∀o∈fr,OpS o:=fun o ho=>by
   rw[hfr]at ho;rcases tG _ _ _ o ho with h|h
   ·cases h
   ·exact hlo o h
  repeat' first|(refine gS ?_;simp only[go_sem,r0,r1,r2,r3,r4,hnl,qs,aC,hwA,h2])|refine gA ?_|(refine gD ?_ ?_<;>intro h<;>try exact aA h)|fail
  refine gB (ι:=Dsk×AHeap) (fun _=>[(0,.ref i 0 0),(5,.int .i64 sn),(6,.sl false (fr.map opA))]) (fun s=>oL G i j c s.1++s.2) (fun s=>jZ d fr=(0,s.1)) ?_ fun⟨dk,M2⟩ hdk=>?_
  ·refine aI (ι:=Nat×Dsk×AHeap) (fun s=>[(0,.ref i 0 0),(5,.int .i64 sn),(6,.sl false (fr.map opA)),(72,.sl false (fr.map opA)),(73,.int .i64 fr.length),(74,.int .i64 s.1)]) (fun s=>oL G i j c s.2.1++s.2.2)
    (fun s=>s.1≤fr.length∧jZ d fr=jZ s.2.1 (fr.drop s.1)∧AddS d s.2.1 s.1) (fun s=>fr.length-s.1) (0,d,M1) ⟨zAo _,rfl,⟨hs,hN.1,by have:=hN.2;simp only;omega,zAf _⟩⟩ ?_ (by rw[hb.own]) ?_
   ·simp[go_sem]
   rintro⟨k,dk,M2⟩ ⟨hk,hak,hdk⟩;simp only at hk hak hdk ⊢;obtain⟨G3,hG3⟩:∃G3,oL G i j c dk++M2=G3:=⟨_,rfl⟩;have hb3:KB i j c dk G3:=hG3▸(hb.put dk).app M2;have htw:∀d2,oL G3 i j c d2=oL G i j c d2++M2:=fun d2=>by rw[←hG3,(hb.put dk).happ,hb.twice]
   rw[hG3];by_cases hlt:k<fr.length
   ·have hdr:=zAi hlt;rw[hdr,jZ]at hak;have hgd:=aN opA hlt;have hom:=hfo _ (zAK hlt);obtain⟨o,ho⟩:∃o,o=fr[k]:=⟨_,rfl⟩;rw[←ho]at hak hgd hom;simp only[opA]at hgd;have hli:decide ((k:Int)<(fr.length:Int))=true:=dT;have hw:=aS hlt (by omega)
    have hops:=hdk.ops;repeat' first|(refine gS ?_;simp only[go_sem,hgd,hli,hlt])|refine gA ?_|(refine gD ?_ ?_<;>intro h<;>try exact aA h)|fail
    refine aR (aLp (hb3.app _) hdk.ds (o:=o) hom (by omega)) (cO) ?_
    rintro v H' ⟨rfl,rfl⟩;rw[hb3.happ,htw];have hnx:=aIX hdk (by omega) hom
    obtain⟨⟨x,d1⟩,hr2⟩:∃r,rO dk o=r:=⟨_,rfl⟩;rw[hr2]at hak hnx ⊢;simp only[go_sem]at hak hnx ⊢;by_cases hx:x=0
    ·subst hx;rw[zAl rfl]at hak;repeat' first|(refine gS ?_;simp only[go_sem])|refine gA ?_|(refine gD ?_ ?_<;>intro h<;>try exact aA h)|fail
     exact⟨(k+1,d1,M2++[.cells 0 (opA o).cells]),⟨hlt,hak,hnx⟩,by simp only;omega,zAx _ hw,by simp[opA,AV.cells]⟩
    ·have hd:decide (x=0)=false:=zAg hx;rw[zAe hx]at hak;rw[hak,zAe hx]at hz;subst hz;repeat' first|(refine gS ?_;simp only[go_sem,hd])|refine gA ?_|(refine gD ?_ ?_<;>intro h<;>try exact aA h)|fail
     exact qK hb rfl rfl
   ·have hke:k=fr.length:=by omega
    have hli:decide ((k:Int)<(fr.length:Int))=false:=dF;repeat' first|(refine gS ?_;simp only[go_sem,hli])|refine gA ?_|(refine gD ?_ ?_<;>intro h<;>try exact aA h)|fail
    rw[hke,zBp,jZ]at hak;exact⟨(dk,M2),hak,hG3.symm⟩
  simp only at hdk;rw[hdk]at hz;simp only[zBc]at hz;have hnl0:=wH G i j c dk;obtain⟨G1,hG1⟩:∃G1,oL G i j c dk=G1:=⟨_,rfl⟩;have hb1:KB i j c dk G1:=hG1▸hb.put dk;have hGl:G1.length=G.length:=by rw[←hG1,wH]
  have htw:∀d2,oL G1 i j c d2=oL G i j c d2:=fun d2=>by rw[←hG1,hb.twice]
  simp only;rw[hG1];have r0:=hb1.b1;have r1:=aG hb1.b1 trivial;have r2:=aG hb1.b2 trivial;have hne:=hb1.ne;have hl1:=hb1.lt1;have hl2:=hb1.lt2;have r3:=hb1.r3;have r4:=hb1.r4;have hnl:=hGl;simp only[dkC]at r0 r1;have qs:=tZ hl1 hl2 hne hGl;subst hz;repeat' first|(refine gS ?_;simp only[go_sem,r0,r1,r2,r3,r4,hnl,qs,aC])|refine gA ?_|(refine gD ?_ ?_<;>intro h<;>try exact aA h)|fail
  refine qK hb rfl ?_;rw[←htw];exact hb1.one (d':={dk with a:={dk.a with n:=fr.length},m:={dk.m with seen:=sn}}) rfl
end
section
def sC:List Pl:=[.free,.free,.pure 0,.pure 0,.pure 0,.pure 0,.pure 0,.free,.eff [true,false,true,true,true],.pure 0,.pure 0,.pure 0,.eff [false,true,true,false,false,false,false]]
attribute [go_sem] sC
structure HallS (p ih iw vh vw lh lw:Nat) (t:Tbl) (G:AHeap):Prop where
 hp:hget G p=.cells 0 [.osl 2 ih vh 0 t.held.length lh,.osl 2 iw vw 0 t.waits.length lw]
 h1:∃r,hget G ih=.cells vh (flA hdA t.held++r)∧(flA hdA t.held++r).length=lh * 2∧∀x∈r,Pur x
 h2:∃r,hget G iw=.cells vw (flA hdA t.waits++r)∧(flA hdA t.waits++r).length=lw * 2∧∀x∈r,Pur x
def aEF(o:Option Int):AV:=.tup [.int .i64 (o.getD 0),.bool o.isSome]
theorem aLU{i:Nat}{n:Int}{G:AHeap}(hi:hget G i=.cells 0 [.int .i64 n])(s:Hld):bH Tryz.prog 116 [hdA s,.ref i 0 0] G (.bool (decide (s.lock=n))):=by
 refine fO Tryz.func116 ?_;have hi1:=aG hi trivial;repeat' first|(refine gS ?_;simp only[go_sem,hdA,hi,hi1])|refine gA ?_|(refine gD ?_ ?_<;>intro h<;>try exact aA h)|fail
 exact dY (.refl _)
theorem aCE{H0 H:AHeap}{i n:Nat}{b:ABlk}(h:∀(j:Nat) (c:ABlk),H[j]?=some c→H0[j]?=some c∨ClB n c)(hb:ClB n b):∀(j:Nat) (c:ABlk),(aB H i b)[j]?=some c→H0[j]?=some c∨ClB n c:=fun j c hc=>(dW hb j c hc).elim (h j c) .inr
theorem aLV(l:List Hld)(r:List AV)(hr:∀x∈r,Pur x)(n v:Nat):ClB n (.cells v (flA hdA l++r)):=fun x hx=>(zAy.1 hx).elim (fun h=>(eY (fun x=>by simp only[go_sem]) _ x h).cl _) fun h=>(hr x h).cl _
theorem aLW{n i j a b c d e f:Nat}(h1:i<n)(h2:j<n):ClB n (.cells 0 [.osl 2 i a 0 b c,.osl 2 j d 0 e f]):=fun x hx=>by
 simp only[zAs,zAH,zBv]at hx;rcases hx with rfl|rfl<;>exact .osl _ _ _ _ _ _ (by assumption)
theorem aEG{α:Type}[DecidableEq α](p:α→Bool)(l:List α)(a:Nat)(h:cQ p l=(a:Int))(ha:a<l.length):p l[a]=true∧l.erase l[a]=l.eraseIdx a:=by
 induction l generalizing a with
 |nil=>simp at ha
 |cons x l ih=>
  unfold cQ at h;cases hp:p x with
  |true=>
   simp only[hp,zBc]at h;have:a=0:=by omega
   subst this;exact⟨hp,by simp⟩
  |false=>
   simp only[hp,zAz,zA3]at h;have:=vG p l;split at h
   ·omega
   ·obtain⟨a,rfl⟩:∃b,a=b+1:=⟨a-1,by omega⟩
    obtain⟨i1,i2⟩:=ih a (by omega) (by simpa using ha)
    refine⟨i1,?_⟩;rw[List.getElem_cons_succ,List.erase_cons_tail,i2,List.eraseIdx_cons_succ];intro hc;rw[zCO]at hc;rw[←hc,hp]at i1;exact absurd i1 (by decide)
theorem aHw{p ih iw vh vw lh lw:Nat}{t:Tbl}{G:AHeap}(hs:HallS p ih iw vh vw lh lw t G)(d1:p≠ih)(d2:p≠iw)(d3:ih≠iw)(b1:lh≤1000000)(b2:lw≤1000000)(n k:Int):
  ACalls Tryz.prog 95 [.ref p 0 0,.int .i64 n,.int .i64 k] G (fun v H'=>v=aEF (bX t n k).2∧HallS p ih iw vh vw lh lw (bX t n k).1 H'∧H'.length=G.length∧∀j,j≠p→j≠ih→j≠iw→hget H' j=hget G j):=by
 refine aO Tryz.func95 ?_;obtain⟨hp,⟨r1,h1,l1,u1⟩,⟨r2,h2,l2,u2⟩⟩:=hs;have gp:=aG hp trivial;have g1:=aG h1 trivial;have g2:=aG h2 trivial;have e1:(flA hdA t.held).length=t.held.length * 2:=aU (enc:=hdA) (s:=2) (fun _=>rfl) _
 have e2:(flA hdA t.waits).length=t.waits.length * 2:=aU (enc:=hdA) (s:=2) (fun _=>rfl) _
 have c1:t.held.length≤lh:=by rw[zAa,e1]at l1;omega
 have c2:t.waits.length≤lw:=by rw[zAa,e2]at l2;omega
 have hix:∀H,hget H ih=.cells vh (flA hdA t.held++r1)→bH Tryz.prog 114 [.osl 2 ih vh 0 t.held.length lh,hdA ⟨k,n⟩] H (.int .i64 (cQ (fun x=>decide ((⟨k,n⟩:Hld)=x)) t.held)):=fun H h=>aLQ t.held ⟨k,n⟩ ih vh lh t.held.length rfl c1 (by omega) r1 H h
 simp only[hdA]at hix;unfold bX;rcases rY (fun x:Hld=>decide ((⟨k,n⟩:Hld)=x)) t.held with⟨q1,q2⟩|⟨a,ha,q1,q2⟩
 ·rw[q1]at hix;have hno:¬t.held.contains ⟨k,n⟩=true:=fun hc=>by
   have:=zBi.1 q2 ⟨k,n⟩ (by simpa using hc)
   simp at this
  simp only[zAe hno];repeat' first|((first|refine aZ (hix _ (by simp only[go_sem,hp,gp,h1,g1,Int.reduceLT])) (cO) ?_|refine bA (hix _ (by simp only[go_sem,hp,gp,h1,g1,Int.reduceLT])) (cO) ?_|refine bB (fun _=>hix _ (by simp only[go_sem,hp,gp,h1,g1,Int.reduceLT])) (cO) ?_|refine gS ?_);simp only[go_sem,hp,gp,h1,g1,Int.reduceLT])|refine gA ?_|(refine gD ?_ ?_<;>intro h<;>try exact aA h)|fail
  exact⟨G,_,aEF none,rfl,rfl,fun i b h=>.inl h,Sim.frz (.refl _) (by simp only[go_sem]),rfl,⟨hp,⟨r1,h1,l1,u1⟩,⟨r2,h2,l2,u2⟩⟩,rfl,fun _ _ _ _=>rfl⟩
 ·rw[q1]at hix;have hya:t.held[a]=⟨k,n⟩:=by have:=zBz q2;simpa[eq_comm]using this
  have hyes:t.held.contains ⟨k,n⟩=true:=by simp only[zBU];rw[←hya];exact zAK ha
  have da:decide ((a:Int)<0)=false:=dF;have wa:IntKind.i64.wrap ((a:Int)+1)=((a+1:Nat):Int):=aS ha (by omega)
  simp only[zAl hyes];repeat' first|((first|refine aZ (hix _ (by simp only[go_sem,hp,gp,h1,g1,da,wa])) (cO) ?_|refine bA (hix _ (by simp only[go_sem,hp,gp,h1,g1,da,wa])) (cO) ?_|refine bB (fun _=>hix _ (by simp only[go_sem,hp,gp,h1,g1,da,wa])) (cO) ?_|refine gS ?_);simp only[go_sem,hp,gp,h1,g1,da,wa])|refine gA ?_|(refine gD ?_ ?_<;>intro h<;>try exact aA h)|fail
  have s1:=cC h1 trivial;refine aR (aLR t.held a ih vh lh t.held.length rfl ha (by omega) r1 _ (g1 _) l1 u1) (cO) ?_
  rintro v H' ⟨r1',rfl,rfl,l1',u1'⟩;rw[s1];obtain⟨D,hD⟩:∃D,D=t.held.eraseIdx a:=⟨_,rfl⟩;have hDe:t.held.erase ⟨k,n⟩=D:=by
   rw[hD,←hya];exact(aEG _ _ _ q1 ha).2
  have hDl:D.length=t.held.length-1:=by rw[hD,List.length_eraseIdx,zAl ha]
  rw[←hD]at l1' ⊢;have i1:=aV h1 trivial;have ip:=aV hp trivial;obtain⟨G1,hG1⟩:∃G1,aB G ih (.cells vh (flA hdA D++r1'))=G1:=⟨_,rfl⟩;have p1:hget G1 ih=.cells vh (flA hdA D++r1'):=by rw[←hG1];exact aX i1 _
  have pp:hget G1 p=.cells 0 [.osl 2 ih vh 0 t.held.length lh,.osl 2 iw vw 0 t.waits.length lw]:=by rw[←hG1];exact aH hp (by omega) _
  have p2:hget G1 iw=.cells vw (flA hdA t.waits++r2):=by rw[←hG1];exact aH h2 (by omega) _
  have gp':=aG pp trivial;have sp':=cC pp trivial;rw[hG1];simp only[go_sem];repeat' first|(refine gS ?_;simp only[go_sem,gp',sp'])|refine gA ?_|(refine gD ?_ ?_<;>intro h<;>try exact aA h)|fail
  have jp:=aV pp trivial;obtain⟨G2,hG2⟩:∃G2,aB G1 p (.cells 0 [.osl 2 ih vh 0 (t.held.length-1) lh,.osl 2 iw vw 0 t.waits.length lw])=G2:=⟨_,rfl⟩;have t1:hget G2 p=.cells 0 [.osl 2 ih vh 0 (t.held.length-1) lh,.osl 2 iw vw 0 t.waits.length lw]:=by rw[←hG2];exact aX jp _
  have t2:hget G2 ih=.cells vh (flA hdA D++r1'):=by rw[←hG2];exact aH p1 (by omega) _
  have t3:hget G2 iw=.cells vw (flA hdA t.waits++r2):=by rw[←hG2];exact aH p2 (by omega) _
  have tl:G2.length=G.length:=by rw[←hG2,aC,←hG1,aC]
  have kG2:∀(i:Nat) (b:ABlk),G2[i]?=some b→G[i]?=some b∨ClB G.length b:=by rw[←hG2,←hG1];exact aCE (aCE (fun _ _ h=>.inl h) (aLV D r1' u1' _ _)) (aLW i1 (aV h2 trivial))
  have oG2:∀j,j≠p→j≠ih→j≠iw→hget G2 j=hget G j:=fun j a1 a2 a3=>by rw[←hG2,←hG1,aY (zBs a1),aY (zBs a2)]
  have gq:=aG t1 trivial;have gr:=aG t2 trivial;have gs:=aG t3 trivial;have o1:∀L:List ABlk,hget (G2++.cells 0 [.int .i64 k]::L) G.length=.cells 0 [.int .i64 k]:=fun L=>iS tl
  have hix2:bH Tryz.prog 37 [.osl 2 iw vw 0 t.waits.length lw,.func (.func 116) [] [.ref G.length 0 0]] (G2++[.cells 0 [.int .i64 k]]) (.int .i64 (cQ (fun x:Hld=>decide (x.lock=k)) t.waits)):=
   aPi t.waits (fun x:Hld=>decide (x.lock=k)) iw vw lw t.waits.length rfl c2 (by omega) r2 _ (gs _) fun x=>.inl ⟨cO,aLU (o1 []) x⟩
  rw[hG2];simp only[gq,go_sem];repeat' first|(refine gS ?_;simp only[go_sem,gq])|refine gA ?_|(refine gD ?_ ?_<;>intro h<;>try exact aA h)|fail
  refine aR hix2 cO ?_;rintro _ _ ⟨rfl,rfl⟩;rcases rY (fun x:Hld=>decide (x.lock=k)) t.waits with⟨z1,z2⟩|⟨b,hb,z1,z2⟩
  ·rw[z1];simp only[z2];simp only[go_sem];repeat' first|(refine gS ?_;simp only[go_sem,gq,gr,gs,Int.reduceLT])|refine gA ?_|(refine gD ?_ ?_<;>intro h<;>try exact aA h)|fail
   exact⟨G2,_,aEF none,rfl,tl,kG2,Sim.frz (.refl _) (by simp only[go_sem]),rfl,⟨by rw[hDe,hDl];exact t1,⟨r1',by rw[hDe];exact t2,by rw[hDe];exact l1',u1'⟩,⟨r2,t3,l2,u2⟩⟩,tl,oG2⟩
  ·rw[z1];simp only[z2];have db:decide ((b:Int)<0)=false:=dF;have wb:IntKind.i64.wrap ((b:Int)+1)=((b+1:Nat):Int):=aS hb (by omega)
   have hp2:=aAB (enc:=hdA) (s:=2) (fun _=>rfl) hb r2
   simp only[hdA,AV.cells]at hp2;have hbl:b * 2+2≤(flA hdA t.waits++r2).length:=by rw[zAa,e2];omega
   have s2:=cC t3 trivial;simp only[go_sem];repeat' first|(refine gS ?_;simp only[go_sem,gq,gr,gs,db,wb,hp2,o1])|refine gA ?_|(refine gD ?_ ?_<;>intro h<;>try exact aA h)|fail
   refine aR (aLR t.waits b iw vw lw t.waits.length rfl hb (by omega) r2 _ (gs _) l2 u2) cO ?_
   rintro v H' ⟨r2',rfl,rfl,l2',u2'⟩;rw[s2];obtain⟨E,hE⟩:∃E,E=t.waits.eraseIdx b:=⟨_,rfl⟩;have hEe:t.waits.erase t.waits[b]=E:=by rw[hE];exact(aEG _ _ _ z1 hb).2
   have hEl:E.length=t.waits.length-1:=by rw[hE,List.length_eraseIdx,zAl hb]
   rw[←hE]at l2' ⊢;obtain⟨G3,hG3⟩:∃G3,aB G2 iw (.cells vw (flA hdA E++r2'))=G3:=⟨_,rfl⟩;have t1:hget G3 p=.cells 0 [.osl 2 ih vh 0 (t.held.length-1) lh,.osl 2 iw vw 0 t.waits.length lw]:=by rw[←hG3];exact aH t1 (by omega) _
   have t2:hget G3 ih=.cells vh (flA hdA D++r1'):=by rw[←hG3];exact aH t2 (by omega) _
   have t3:hget G3 iw=.cells vw (flA hdA E++r2'):=by rw[←hG3];exact aX (aV t3 trivial) _
   have tl3:G3.length=G.length:=by rw[←hG3,aC,tl]
   have gq:=aG t1 trivial;have sp':=cC t1 trivial;rw[hG3];simp only[go_sem];repeat' first|((first|refine mx [10] sC ?_|refine gS ?_);simp only[go_sem,gq,sp'])|refine gA ?_|(refine gD ?_ ?_<;>intro h<;>try exact aA h)|fail
   have jp:=aV t1 trivial;obtain⟨G4,hG4⟩:∃G4,aB G3 p (.cells 0 [.osl 2 ih vh 0 (t.held.length-1) lh,.osl 2 iw vw 0 (t.waits.length-1) lw])=G4:=⟨_,rfl⟩;have t1:hget G4 p=.cells 0 [.osl 2 ih vh 0 (t.held.length-1) lh,.osl 2 iw vw 0 (t.waits.length-1) lw]:=by rw[←hG4];exact aX jp _
   have t2:hget G4 ih=.cells vh (flA hdA D++r1'):=by rw[←hG4];exact aH t2 (by omega) _
   have t3:hget G4 iw=.cells vw (flA hdA E++r2'):=by rw[←hG4];exact aH t3 (by omega) _
   have tl4:G4.length=G.length:=by rw[←hG4,aC,tl3]
   have gq:=aG t1 trivial;have gr:=aG t2 trivial;have sr:=cC t2 trivial;have o2:∀B L,hget (G4++B::.cells 0 [.int .i64 t.waits[b].lock,.int .i64 t.waits[b].thr]::L) (G2.length+1)=.cells 0 [.int .i64 t.waits[b].lock,.int .i64 t.waits[b].thr]:=fun B L=>lT (k:=1) (by omega)
   have hlt:t.held.length-1+1≤lh:=by omega
   have eD:(flA hdA D).length=(t.held.length-1) * 2:=by rw[aU (enc:=hdA) (s:=2) (fun _=>rfl),hDl]
   have hne:(t.held.length-1=lh)=False:=zDo (by omega)
   have hsp:=fun a b=>cD (B:=r1') (X:=[.int .i64 a,.int .i64 b]) eD
   rw[hG4];simp only[gq,o2,go_sem];repeat' first|((first|refine mx [10] sC ?_|refine gS ?_);simp only[go_sem,gq,gr,sr,o2,hne,l1'])|refine gA ?_|(refine gD ?_ ?_<;>intro h<;>try exact aA h)|fail
   have hG5e:flA hdA (D++[t.waits[b]])=flA hdA D++[.int .i64 t.waits[b].lock,.int .i64 t.waits[b].thr]:=cB ..;have hsp2:bG (flA hdA D++r1') ((t.held.length-1) * 2) [.int .i64 t.waits[b].lock,.int .i64 t.waits[b].thr]=flA hdA (D++[t.waits[b]])++r1'.drop 2:=by rw[hsp,hG5e,zAr];rfl
   obtain⟨G5,hG5⟩:∃G5,aB G4 ih (.cells vh (flA hdA (D++[t.waits[b]])++r1'.drop 2))=G5:=⟨_,rfl⟩;have t1':hget G5 p=.cells 0 [.osl 2 ih vh 0 (t.held.length-1) lh,.osl 2 iw vw 0 (t.waits.length-1) lw]:=by rw[←hG5];exact aH t1 (by omega) _
   have t3':hget G5 iw=.cells vw (flA hdA E++r2'):=by rw[←hG5];exact aH t3 (by omega) _
   have t2':hget G5 ih=.cells vh (flA hdA (D++[t.waits[b]])++r1'.drop 2):=by rw[←hG5];exact aX (aV t2 trivial) _
   have gq5:=aG t1' trivial;have sq5:=cC t1' trivial;have o3:∀B L,hget (G5++B::.cells 0 [.int .i64 t.waits[b].lock,.int .i64 t.waits[b].thr]::L) (G2.length+1)=.cells 0 [.int .i64 t.waits[b].lock,.int .i64 t.waits[b].thr]:=fun B L=>lT (k:=1) (by rw[←hG5,aC];omega)
   simp only[gr,hne,zA3,hsp2,sr,hG5,gq5,sq5,l1',go_sem];obtain⟨G6,hG6⟩:∃G6,aB G5 p (.cells 0 [.osl 2 ih vh 0 (t.held.length-1+1) lh,.osl 2 iw vw 0 (t.waits.length-1) lw])=G6:=⟨_,rfl⟩;have t1:hget G6 p=.cells 0 [.osl 2 ih vh 0 (t.held.length-1+1) lh,.osl 2 iw vw 0 (t.waits.length-1) lw]:=by rw[←hG6];exact aX (aV t1' trivial) _
   have t2:hget G6 ih=.cells vh (flA hdA (D++[t.waits[b]])++r1'.drop 2):=by rw[←hG6];exact aH t2' (by omega) _
   have t3:hget G6 iw=.cells vw (flA hdA E++r2'):=by rw[←hG6];exact aH t3' (by omega) _
   have tl6:G6.length=G.length:=by rw[←hG6,aC,←hG5,aC,tl4]
   have gq6:=aG t1 trivial;have o4:∀B L,hget (G6++B::.cells 0 [.int .i64 t.waits[b].lock,.int .i64 t.waits[b].thr]::L) (G2.length+1)=.cells 0 [.int .i64 t.waits[b].lock,.int .i64 t.waits[b].thr]:=fun B L=>lT (k:=1) (by omega)
   rw[hG6];simp only[o3,gq6,go_sem];refine⟨⟨zAf _,hlt,fun e he=>by rw[he];rfl⟩,?_⟩
   repeat' first|(refine gS ?_;simp only[go_sem,o4])|refine gA ?_|(refine gD ?_ ?_<;>intro h<;>try exact aA h)|fail
   have u3:∀x∈r1'.drop 2,Pur x:=fun x hx=>u1' x (zBq hx)
   have kG6:∀(i:Nat) (b:ABlk),G6[i]?=some b→G[i]?=some b∨ClB G.length b:=by
    rw[←hG6,←hG5,←hG4,←hG3];exact aCE (aCE (aCE (aCE kG2 (aLV E r2' u2' _ _)) (aLW i1 (aV h2 trivial))) (aLV _ _ u3 _ _)) (aLW i1 (aV h2 trivial))
   have oG6:∀j,j≠p→j≠ih→j≠iw→hget G6 j=hget G j:=fun j a1 a2 a3=>by rw[←hG6,←hG5,←hG4,←hG3,aY (zBs a1),aY (zBs a2),aY (zBs a1),aY (zBs a3),oG2 j a1 a2 a3]
   refine⟨G6,_,_,rfl,tl6,kG6,Sim.frz (.refl _) (by simp only[go_sem]),rfl,⟨by rw[hDe,hEe,zAa,hDl,hEl];exact t1,⟨r1'.drop 2,by rw[hDe];exact t2,by rw[hDe,hG5e,zAa,zAa,zAX,eD];rw[zAa,eD]at l1';simp only[zAc,zAv];omega,u3⟩,⟨r2',by rw[hEe];exact t3,by rw[hEe];exact l2',u2'⟩⟩,tl6,oG6⟩
end
end Go.Proofs.YtennnelammaapaaGreatDoor
