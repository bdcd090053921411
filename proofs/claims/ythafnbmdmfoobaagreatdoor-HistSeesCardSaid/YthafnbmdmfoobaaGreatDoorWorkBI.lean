/- What the functions of this seat answer (35 of 40). No condition. -/
import Derived.Test.YthafnbmdmfoobaaGreatDoorWorkBH
set_option linter.unusedSimpArgs false
set_option linter.unusedVariables false
set_option maxRecDepth 100000
set_option maxHeartbeats 16000000
namespace Go.Proofs.YthafnbmdmfoobaaGreatDoor
section
theorem S8{l:List ba}{k:Nat}{t:ba}(h:l[k]?=some t):List.take 5 (List.drop (k * 18) (aI aR l))=(cJ t.call).cells:=by
 obtain⟨hk,rfl⟩:=cA.1 h;have:=bH (List.take 5) (om (enc:=aR) (s:=18) (fun _=>rfl) hk)
 rw[List.take_take]at this;exact this
theorem aCI{l:List ba}{k f:Nat}{t:ba}{y:I}(h:l[k]?=some t)(an:(aR t).cells[f]?=some y):(aI aR l).getD (k * 18+f) .top=y:=by
 unfold aI;rw[eP,yw (s:=18) (es:=l.map aR) (k:=k) (j:=f) (e:=aR t) (x:=y) (fun e he=>by(obtain⟨x, -,rfl⟩:=bP.1 he;rfl)) (by rw[nj,h];rfl) an]
 rfl
def PC:List cR:=[.pure 0,.pure 0,.pure 0,.pure 0,.pure 0,.free,.pure 0,.pure 0,.pure 0,.pure 0,.pure 0,.free,.pure 0,.pure 0,.pure 0,.pure 0,.eff [false,false,false,false,false,false,false,false,false,false,false,false,false,false]]
attribute [go_sem] PC
theorem aEE{b i j:Nat}{who k:Nat}{u:eR}{x:bn}{G:ab}(aa:ha i j who u x G)(aJ:ao G b=.cells 0 [.ref i 0 0])(hl:x.aq.length<=40){t:ba}(aj:x.aq[k]?=some t)(ae:t.call.path.length<=1048576):aY Tryz.prog 116 [.int .i64 k,.ref b 0 0] G (.bool (zq who k t)):=by
 refine bh Tryz.func116 ?_;have a8:=aa.aV;have a3:=aa.bm;have hk:=(cA.1 aj).1;have g4:=dE (enc:=aR) (s:=18) (fun _=>rfl) x.aq
 have zU:=S8 aj;have ky:=aCI (f:=7) aj rfl;have rr:=aCr t.call ae;have gr:((0:Int)<=(k:Int)∧(k:Int)<(x.aq.length:Int))=True:=bJ ⟨by omega,by omega⟩
 have ix:(k * 18+5<=x.aq.length * 18)=True:=bJ (by omega)
 have FW:(k * 18+7<x.aq.length * 18)=True:=bJ (by omega)
 have aL:(if fC t.call=false∧gR t.call=true then I.a0 [.sl false ((hr t.call).map I.str),.bool true]else .a0 [.sl true [],.bool false])=.a0 [(if gR t.call=true then .sl false ((hr t.call).map I.str)else .sl true []),.bool (gR t.call)]:=by
  cases hw:gR t.call with
  |true=>rw[aF ⟨Sc hw,rfl⟩];rfl
  |false=>rw[az (fun h=>by cases h.2)];rfl
 rw[aL]at rr;obtain⟨N,hc⟩:∃N,(if gR t.call=true then I.sl false ((hr t.call).map I.str)else .sl true [])=N:=⟨_,rfl⟩
 rw[hc]at rr;simp only[e7,cJ,I.cells]at a8 zU rr;unfold zq;refine bW ?_;have aJe:decide ((k:Int)=(who:Int))=decide (k=who):=DO.2 (by omega)
 exact bC (.of (by rw[aJe]))
def hz(who:Nat)(x:bn)(q:Nat):bn:={x with t:=((List.range q).foldl (k6 who) (x.t,x.aq)).1,aq:=((List.range q).foldl (k6 who) (x.t,x.aq)).2}
theorem YU{who q:Nat}{x:bn}{t:ba}(h:(hz who x q).aq[q]?=some t):hz who x (q+1)=(if zq who q t=true then{hz who x q with t:=(jX (hz who x q).t q).1,aq:=(jX (hz who x q).t q).2.foldl kJ (gJ (hz who x q).aq q nS)}else hz who x q):=by
 unfold hz at *;rw[List.range_succ,s4];simp only[nZ,Bc]at h ⊢;generalize(List.range q).foldl (k6 who) (x.t,x.aq)=s at *;unfold k6;rw[eP,h,oJ];split<;>rfl
def AF(x:bn)(k p:Nat):bn:={x with t:=(jX x.t k).1,aq:=((jX x.t k).2.take p).foldl kJ (gJ x.aq k nS)}
theorem aEF{i j:Nat}{who:Nat}{u:eR}{x:bn}{G:ab}(aa:ha i j who u x G)(n:Nat)(ag:x.aq.length=n)(a2:∀q,q<=n->r2 (hz who x q)∧(hz who x q).aq.length=n)(ae:∀q t,q<n->(hz who x q).aq[q]?=some t->t.call.path.length<=1048576)
  (ix:∀q p,q<n->∀t∈(AF (hz who x q) q p).aq,q8 t) (hd:∀q,q<n->(jX (hz who x q).t q).2.length<=1000000):q9 Tryz.prog 83 [] i j who u (BU who x) G:=by
 refine eJ Tryz.func83 ?_;have a8:=aa.aV;have aU:=bz aa.aV trivial;have a3:=aa.bm;have lM:=bz aa.bm trivial;have a1:=aa.a1;have a4:=aa.a4;have eh:=aa.eh;have e6:=aa.e6;simp only[e7]at a8 aU eh e6;have bq:=sV aa.e3 aa.fR aa.ne;have EZ:=(a2 0 (bG _)).1.n;repeat' first|((first|refine mx [8] PC ?_|refine ad ?_);simp only[go_sem,a8,aU,a3,a1,a4,eh,e6,lM,bq,aX])|refine af ?_|fail
 have p1:hz who x 0=x:=rfl;rw[ag];refine b5 (ι:=Nat×ab) (fun s=>[(1,.ref G.length 0 0),(2,.func (.func 116) [] [.ref G.length 0 0]),(14,.int .i64 n),(15,.int .i64 s.1)]) (fun s=>e5 G i j who u (hz who x s.1)++(.cells 0 [.ref i 0 0]::s.2)) (fun s=>s.1<=n) (fun s=>n-s.1) (0,[]) (bG _) ?_ (by rw[p1,aa.own]) ?_
 ·simp[go_sem]
 rintro⟨q,L⟩ aS;simp only at aS ⊢;by_cases ak:q<n
 ·have aH:decide ((q:Int)<(n:Int))=true:=b1;have hw:IntKind.i64.wrap ((q:Int)+1)=((q+1:Nat):Int):=by rw[wrap_i64 (by have:=a2 0 (bG _);have:=this.1.n;have:=(a2 0 (bG _)).2;omega) (by have:=(a2 0 (bG _)).1.n;have:=(a2 0 (bG _)).2;omega)];rfl
  obtain⟨X,ez⟩:∃X,hz who x q=X:=⟨_,rfl⟩;obtain⟨FX,aJP⟩:=a2 q aS;have Wi:=ae q;have WL:=ix q;have N4:=hd q ak;rw[ez]at FX aJP Wi WL N4;have aSj:=FX.n;have Ox:q<X.aq.length:=by omega
  have aj:=c0 Ox;obtain⟨t,CJ⟩:∃t,X.aq[q]=t:=⟨_,rfl⟩;rw[CJ]at aj;have N1:=(aa.put X).app (.cells 0 [.ref i 0 0]::L);have Cx:ao (e5 G i j who u X++(.cells 0 [.ref i 0 0]::L)) G.length=.cells 0 [.ref i 0 0]:=rB (yE ..);have yg:=aEE N1 Cx (by omega) aj (Wi t ak aj)
  have CF:=YU (who:=who) (x:=x) (q:=q) (t:=t) (by rw[ez];exact aj)
  rw[ez]at CF;rw[ez];refine bW ?_;refine qy (first:=[]) (cap:=[.ref G.length 0 0]) yg aA ?_
  rintro v H' ⟨rfl,rfl⟩;cases gb:zq who q t with
  |false=>
   rw[gb,az (by decide)]at CF
   simp only[go_sem];refine aT ?_;exact⟨(q+1,L),ak,by simp only;omega,bH _ hw,by simp only[CF]⟩
  |true=>
   rw[gb,aF rfl]at CF;obtain⟨y5,Vs⟩:∃y5,e5 G i j who u X++(.cells 0 [.ref i 0 0]::L)=y5:=⟨_,rfl⟩;rw[Vs]at N1 Cx ⊢;have iG:=aa;have aa:=N1;have a8:=aa.aV;have aU:=bz aa.aV trivial;have a3:=aa.bm;have lM:=bz aa.bm trivial;have a1:=aa.a1;have a4:=aa.a4;have eh:=aa.eh;have e6:=aa.e6;simp only[e7]at a8 aU eh e6;have bq:=sV aa.e3 aa.fR aa.ne;have g4:=dE (enc:=aR) (s:=18) (fun _=>rfl) X.aq
   have kz:=aBM false false X.t q FX.held FX.waits;obtain⟨⟨t1,ps⟩,ax⟩:∃r,jX X.t q=r:=⟨_,rfl⟩;rw[ax]at kz CF N4;have rk:=aDP false false false t (FX.uq _ (df aj));have fj:=om (enc:=aR) (s:=18) (fun _=>rfl) Ox
   rw[CJ]at fj;have av:=w4 (enc:=aR) (s:=18) (fun _=>rfl) Ox (nS t)
   simp only[aR,g9,jd,fN,I.cells]at rk fj av kz;have Jm:=bz Cx trivial;have Jn:∀X Y L,ao (ai (ai y5 j X) i Y++L) G.length=.cells 0 [.ref i 0 0]:=fun X Y L=>bQ (bM (bM Cx (by have:=iG.fR;omega) _) (by have:=iG.e3;omega) _) trivial L
   have aJq:∀Y L,ao (ai y5 i Y++L) G.length=.cells 0 [.ref i 0 0]:=fun Y L=>bQ (bM Cx (by have:=iG.e3;omega) _) trivial L
   have gr:((0:Int)<=(q:Int)∧(q:Int)<(X.aq.length:Int))=True:=bJ ⟨by omega,by omega⟩
   simp only[go_sem];repeat' first|((first|refine mx [8] PC ?_|refine ad ?_);simp only[go_sem,a8,aU,a3,a1,a4,eh,e6,lM,bq,aX,Cx,Jm,Jn,aJq,g4,fj,av,gr])|refine af ?_|fail
   obtain⟨P,kv⟩:∃P:Nat->bn,(fun p=>AF X q p)=P:=⟨_,rfl⟩
   have aIU:∀p,(P p).aq.length=X.aq.length:=fun p=>by
    rw[<-kv];unfold AF;simp only;generalize List.take p (jX X.t q).2=l;have:∀(l:List cM) (k:List ba),(l.foldl kJ k).length=k.length:=fun l=>by
     induction l with
     |nil=>exact fun k=>rfl
     |cons w l ay=>intro k;rw[nZ,ay];exact yT _ _ _
    rw[this,yT]
   have aJr:∀Y L,ao (e5 y5 i j who u Y++L) G.length=.cells 0 [.ref i 0 0]:=fun Y L=>Jn _ _ L
   have aIV:∀p,p<ps.length->P (p+1)={P p with aq:=kJ (P p).aq ps[p]! }:=fun p ae=>by
    rw[<-kv];unfold AF;simp only[ax];rw[eB ae,s4,getElem!_pos ps p ae];rfl
   refine b5 (ι:=Nat×ab) (fun s=>[(1,.ref G.length 0 0),(2,.func (.func 116) [] [.ref G.length 0 0]),(14,.int .i64 n),(15,.int .i64 q),(53,.sl false (ps.map a6)),(54,.int .i64 ps.length),(55,.int .i64 s.1)]) (fun s=>e5 y5 i j who u (P s.1)++(.cells 0 [.sl false (t1.held.map a6),.sl false (t1.waits.map a6)]::s.2)) (fun s=>s.1<=ps.length) (fun s=>ps.length-s.1) (0,[]) (bG _) ?_ ?_ ?_
   ·simp[go_sem]
   ·rw[<-kv];unfold e5 e7 AF;simp only[xr,Bc,ax,mr aj,gj]
   rintro⟨p,py⟩ ae;simp only at ae ⊢;by_cases fe:p<ps.length
   ·have aH:decide ((p:Int)<(ps.length:Int))=true:=b1;have cG:=dg a6 fe;have mM:IntKind.i64.wrap ((p:Int)+1)=((p+1:Nat):Int):=dW fe (by simp only at N4;omega)
    obtain⟨fS,jq⟩:∃fS,e5 y5 i j who u (P p)++(.cells 0 [.sl false (t1.held.map a6),.sl false (t1.waits.map a6)]::py)=fS:=⟨_,rfl⟩;have tu:=(aa.put (P p)).app (.cells 0 [.sl false (t1.held.map a6),.sl false (t1.waits.map a6)]::py);have Oe:=aJr (P p) (.cells 0 [.sl false (t1.held.map a6),.sl false (t1.waits.map a6)]::py);rw[jq]at tu Oe ⊢;have aJs:=bz Oe trivial;repeat' first|(refine ad ?_;simp only[go_sem,aH,cG,a6,Oe,aJs])|refine af ?_|fail
    refine c6 (TK (tu.app _) (by rw[aIU];omega) ps[p] (by rw[<-kv];exact WL p ak)) aA ?_
    rintro v H' ⟨rfl,rfl⟩;rw[<-jq,cr,gi,aa.next];simp only[go_sem];refine aT ?_;refine⟨(p+1,py++[.cells 0 [.int .i64 ps[p].lock,.int .i64 ps[p].aR]]),fe,by simp only;omega,bH _ mM,?_⟩
    rw[aIV p fe,getElem!_pos ps p fe]
   ·have tK:p=ps.length:=by omega
    subst tK;have aH:decide ((ps.length:Int)<(ps.length:Int))=false:=by simp
    repeat' first|(refine ad ?_;simp only[go_sem,aH])|refine af ?_|fail
    have aIT:P ps.length=hz who x (q+1):=by
     rw[CF,<-kv];unfold AF;simp only[ax,eQ]
    refine⟨(q+1,L++(.cells 0 [.sl false (t1.held.map a6),.sl false (t1.waits.map a6)]::py)),ak,by simp only;omega,bH _ hw,?_⟩
    rw[aIT,<-Vs,iG.next,cr];rfl
 ·have wI:q=n:=by omega
  subst wI;have aH:decide ((q:Int)<(q:Int))=false:=by simp
  refine bW ?_;refine pc aa ?_;unfold hz BU;rw[ag]
structure Ql (who:Nat) (x:bn):Prop where
 z:∀q,q<=x.aq.length->r2 (hz who x q)∧(hz who x q).aq.length=x.aq.length
 p:∀q t,q<x.aq.length->(hz who x q).aq[q]?=some t->t.call.path.length<=1048576
 t:∀q p,q<x.aq.length->∀t∈(AF (hz who x q) q p).aq,q8 t
 d:∀q,q<x.aq.length->(jX (hz who x q).t q).2.length<=1000000
end
section
theorem aF1{i j:Nat}{who:Nat}{u:eR}{x:bn}{G:ab}(aa:ha i j who u x G)(a2:r2 x)(hm:ey x.m){t:ba}(aj:x.aq[who]?=some t)(al:jh t.call)(hu:u=⟨3,0⟩)(aN:x.ops.length<=1000)(zS:(dz x.m t.call).2.1.names.length<=1048576∧(dz x.m t.call).2.1.events.length<=1048576)(cf:t.call.kind=13->(dz x.m t.call).2.1.err=0->Ql who (jQ who x (dz x.m t.call))):q9 Tryz.prog 52 [] i j who u (xT who t.call x) G:=by
 refine eJ Tryz.func52 ?_;subst hu;have a8:=aa.aV;have aU:=bz aa.aV trivial;have a3:=aa.bm;have lM:=bz aa.bm trivial;have a1:=aa.a1;have a4:=aa.a4;have eh:=aa.eh;have e6:=aa.e6;simp only[e7]at a8 aU eh e6;have bq:=sV aa.e3 aa.fR aa.ne;have hk:=(cA.1 aj).1;have g4:=dE (enc:=aR) (s:=18) (fun _=>rfl) x.aq
 have zU:=S8 aj;have j0:=Ik false false false false x.m hm t.call al;unfold xT;obtain⟨⟨m,a,o⟩,ax⟩:∃r,dz x.m t.call=r:=⟨_,rfl⟩;rw[ax]at j0 zS cf ⊢;simp only[dv,gf,cJ,wg,il,I.cells]at j0 zU;have gr:((0:Int)<=(who:Int)∧(who:Int)<(x.aq.length:Int))=True:=bJ ⟨by omega,by omega⟩
 have ix:(who * 18+5<=x.aq.length * 18)=True:=bJ (by omega)
 have FC:o.length<=1000:=by
  have h1:=Nf hm t.call;have h2:=(xO hm t.call).cap;rw[ax]at h1 h2;simp only at h1 h2;omega
 have hj:=aAs true false false x.ops o (by omega) (by omega)
 obtain⟨nV,wM⟩:∃nV,{t with bp:=a}=nV:=⟨_,rfl⟩;obtain⟨oH,CM⟩:∃oH,{nV with mark:=x.time}=oH:=⟨_,rfl⟩;obtain⟨mA,OT⟩:∃mA,{oH with upto:=((x.ops++o).length:Int)}=mA:=⟨_,rfl⟩;have p0:x.aq[who]=t:=(cA.1 aj).2;have cK:=sJ (enc:=aR) (s:=18) (f:=13) (X:=[.int .i64 a.err,.str a.data,.sl false (a.names.map I.str),.int .i64 a.n,.sl false (a.events.map ct)]) (fun _=>rfl) hk (by simp) nV (by rw[p0,<-wM];rfl)
 have dc:=sJ (enc:=aR) (s:=18) (f:=11) (X:=[.int .i64 x.time]) (D:=x.aq.set who nV) (k:=who) (fun _=>rfl) (by rw[gj];exact hk) (by simp) oH (by rw[vE,<-CM];rfl)
 have ei:=sJ (enc:=aR) (s:=18) (f:=9) (X:=[.int .i64 ((x.ops++o).length:Int)]) (D:=x.aq.set who oH) (k:=who) (fun _=>rfl) (by rw[gj];exact hk) (by simp) mA (by rw[vE,<-OT];rfl)
 rw[List.set_set]at dc ei;have cH:∀y,(aI aR (x.aq.set who y)).length=x.aq.length * 18:=fun y=>by rw[dE (enc:=aR) (s:=18) (fun _=>rfl),gj]
 have FW:(who * 18+18<=x.aq.length * 18)=True:=bJ (by omega)
 have OU:(who * 18+12<=x.aq.length * 18)=True:=bJ (by omega)
 have aKI:(who * 18+10<=x.aq.length * 18)=True:=bJ (by omega)
 simp only[bt]at ei;repeat' first|((first|refine JU (id:=1) [.free,.pure 3,.pure 3,.pure 3,.pure 3,.free,.pure 3,.pure 3,.pure 3,.pure 3,.free,.free,.free,.free] [.eff [],.eff [],.free] 14 31 64 3 4 w9 rfl (by kernel_rfl) (by kernel_rfl) (by kernel_rfl) (by kernel_rfl) ?_|refine ad ?_);simp only[go_sem,a8,aU,a3,a1,a4,eh,e6,lM,bq,aX,g4,zU,gr,ix,FW,OU,aKI,cH,cK,dc,ei])|refine af ?_|fail
 obtain⟨dZ,gI⟩:∃dZ:bn,dZ={x with m:=m,ops:=x.ops++o,aq:=x.aq.set who mA}:=⟨_,rfl⟩;have av:e5 G i j who ⟨3,0⟩ dZ=ai (ai G j (.cells 1 (aI aR dZ.aq))) i (.cells 0 (e7 j who ⟨3,0⟩ dZ)):=rfl;obtain⟨L,hU⟩:∃L,[bu.cells 2 [.sl false (m.log.entries.map de),.sl false (m.log.nodes.map aW),.int .i64 m.seen,.int .i64 m.rep,.sl false (m.cj.map cU),.sl false (m.bN.map bU),.int .i64 m.next],bu.cells 2 [.int .i64 a.err,.str a.data,.sl false (a.names.map I.str),.int .i64 a.n,.sl false (a.events.map ct)]]=L:=⟨_,rfl⟩;have aSN:=gI;rw[gI]at av;simp only[e7,gj]at av;rw[<-av,<-gI,hU];have nH:=a2.uq _ (df aj);have aG:mA.call=t.call∧mA.has=t.has∧mA.bp=a:=by rw[<-OT,<-CM,<-wM];exact⟨rfl,rfl,rfl⟩
 have FN:dZ.aq[who]?=some mA:=by rw[gI];exact oI hk
 have kf:=aa.put dZ;refine c6 (Gr (kf.app L) (by rw[gI];simp only[gj];exact a2.n) FN ⟨by rw[aG.1];exact nH.1,by rw[aG.2.1];exact nH.2.1,by rw[aG.2.2];exact zS.1,by rw[aG.2.2];exact zS.2⟩) aA ?_
 rintro v H' ⟨rfl,rfl⟩;rw[aa.next];rw[mr FN];obtain⟨gh,FU⟩:∃gh:bn,gh={dZ with aq:=dZ.aq.set who (dj mA ⟨3,0⟩)}:=⟨_,rfl⟩;rw[<-FU];have tu:=(aa.put gh).app L;have OR:gh.aq=x.aq.set who (dj mA ⟨3,0⟩):=by rw[FU,gI];simp only[List.set_set]
 have cc:=tu.aV;have cI:=tu.bm;have gZ:∀k,ao (e5 G i j who ⟨3,0⟩ gh++L) (G.length+k)=L.getD k .gone:=fun k=>w3 (yE ..)
 have mJ:(aI aR gh.aq).getD (who * 18) .top=.int .i64 t.call.kind:=by
  unfold aI;have:=yw (s:=18) (es:=gh.aq.map aR) (k:=who) (j:=0) (e:=aR (dj mA ⟨3,0⟩)) (x:=.int .i64 (dj mA ⟨3,0⟩).call.kind) (fun e he=>by(obtain⟨x, -,rfl⟩:=bP.1 he;rfl)) (by rw[nj,OR,oI hk];rfl) rfl
  rw[uz]at this;rw[eP,this,<-aG.1];rfl
 have nD:(aI aR gh.aq).length=x.aq.length * 18:=by rw[OR];exact cH _
 have yo:gh.aq.length=x.aq.length:=by rw[OR,gj]
 have OV:(who * 18<x.aq.length * 18)=True:=bJ (by omega)
 rw[<-hU]at cc cI gZ ⊢;simp only[e7,yo]at cc;have oc:jQ who x (m,a,o)=gh:=by
  unfold jQ;rw[mr aj,FU,gI];simp only[List.set_set];rw[<-OT,<-CM,<-wM];rfl
 rw[oc];simp only[go_sem];by_cases k1:t.call.kind=13
 ·have d1:decide (t.call.kind=13)=true:=cF k1;by_cases k2:a.err=0
  ·have d2:decide (a.err=0)=true:=cF k2;rw[aF ⟨k1,k2⟩];repeat' first|((first|refine JU (id:=1) [.free,.pure 3,.pure 3,.pure 3,.pure 3,.free,.pure 3,.pure 3,.pure 3,.pure 3,.free,.free,.free,.free] [.eff [],.eff [],.free] 14 31 64 3 4 w9 rfl (by kernel_rfl) (by kernel_rfl) (by kernel_rfl) (by kernel_rfl) ?_|refine ad ?_);simp only[go_sem,cc,cI,gZ,mJ,nD,gr,OV,d1,d2])|refine af ?_|fail
   rw[hU];have cf:=cf k1 k2;rw[oc]at cf;refine c6 (aEF tu _ rfl cf.z cf.p cf.t cf.d) aA ?_;rintro v H' ⟨rfl,rfl⟩;rw[aa.next];simp only[go_sem];repeat' first|(refine ad ?_;simp only[go_sem])|refine af ?_|fail
   exact pc aa rfl
  ·have d2:decide (a.err=0)=false:=b8 k2;rw[az fun h=>k2 h.2]
   repeat' first|((first|refine JU (id:=1) [.free,.pure 3,.pure 3,.pure 3,.pure 3,.free,.pure 3,.pure 3,.pure 3,.pure 3,.free,.free,.free,.free] [.eff [],.eff [],.free] 14 31 64 3 4 w9 rfl (by kernel_rfl) (by kernel_rfl) (by kernel_rfl) (by kernel_rfl) ?_|refine ad ?_);simp only[go_sem,cc,cI,gZ,mJ,nD,gr,OV,d1,d2])|refine af ?_|fail
   exact pc aa rfl
 ·have d1:decide (t.call.kind=13)=false:=b8 k1;rw[az fun h=>k1 h.1]
  repeat' first|((first|refine JU (id:=1) [.free,.pure 3,.pure 3,.pure 3,.pure 3,.free,.pure 3,.pure 3,.pure 3,.pure 3,.free,.free,.free,.free] [.eff [],.eff [],.free] 14 31 64 3 4 w9 rfl (by kernel_rfl) (by kernel_rfl) (by kernel_rfl) (by kernel_rfl) ?_|refine ad ?_);simp only[go_sem,cc,cI,gZ,mJ,nD,gr,OV,d1])|refine af ?_|fail
  exact pc aa rfl
end
section
def y3(a:hS):Prop:=a.names.length<=1000∧a.events.length<=1000∧a.data.length<=1000
theorem S9(e:Int):y3 (Cf e):=⟨bG _,bG _,bG _⟩
theorem aCJ(l:List aB)(d:Int):(BM l d).length<=l.length:=by
 unfold BM;split
 ·rw[(Gt _).length_eq,cP];exact Ix l d
 ·exact bG _
theorem YR{m:cb}(h:ey m){n:Int}{l:List aB}(hl:pa m n=some l):l.length<=200:=by
 unfold pa at hl;split at hl
 ·cases hl;exact h.nodes.len
 ·obtain⟨s,hs,rfl⟩:=jC.1 hl;exact(h.snap s (rV hs)).len
theorem oE{e:Int}{d:cS}(h:e≠0):((e,d):Int×cS).1=0->y3 ((e,d):Int×cS).2.a:=fun q=>absurd q h
theorem aAt{m:cb}(h:ey m){n:Int}{l:List aB}(hl:pa m n=some l):∀x∈l,x.data.length<=64:=by
 unfold pa at hl;split at hl
 ·cases hl;exact fun x J=>(h.nodes.fq x J).data
 ·obtain⟨s,hs,rfl⟩:=jC.1 hl;exact fun x J=>((h.snap s (rV hs)).fq x J).data
theorem aEG{m:cb}(h:ey m){c:b3}(al:pG c=true):(ih c ⟨m,c2,[]⟩).1=0->y3 (ih c ⟨m,c2,[]⟩).2.a:=by
 have aC:∀{p:Prop},p->y3 c2:=fun _=>⟨bG _,bG _,bG _⟩
 have hk:=KZ al;unfold ih;by_cases k1:c.kind=1∨c.kind=2
 ·rw[aF k1];rcases Kn (c:=c) (d:=⟨m,c2,[]⟩) h with⟨e,he,ar⟩|⟨dir,s, -, -, -,ag,aN,ar⟩
  ·rw[ar];exact oE he
  ·rw[ar];exact aC
 rw[az k1];by_cases k3:c.kind=3
 ·rw[aF k3];rcases Kc (c:=c) (d:=⟨m,c2,[]⟩) h (KY al k3)with⟨e,he,ar⟩|⟨id, -, -,ag,aN,ar⟩
  ·rw[ar];exact oE he
  ·rw[ar];exact aC
 rw[az k3];by_cases k4:c.kind=4
 ·rw[aF k4];unfold BB;split
  ·exact oE (by decide)
  ·rename_i l hl;split
   ·split
    ·exact oE (by decide)
    ·refine fun _=>⟨bG _,bG _,?_⟩
     cases an:xN l (fL l c.path).1 with
     |none=>exact bG _
     |some n=>
      unfold xN at an;split at an
      ·exact gU (aAt h hl n (rV an)) (by decide)
      ·cases an
   ·rename_i h;exact oE h
 rw[az k4];by_cases kE:c.kind=5
 ·rw[aF kE];rcases Ko (c:=c) (d:=⟨m,c2,[]⟩) h with⟨e,he,ar⟩|⟨id,dir,s, -, -, -, -, -, -, -,ag,aN,ar⟩
  ·rw[ar];exact oE he
  ·rw[ar];exact aC
 rw[az kE];by_cases sI:c.kind=6
 ·rw[aF sI];rcases J2 (c:=c) (d:=⟨m,c2,[]⟩) h with⟨e,he,ar⟩|⟨id,s, -, -, -,ag,aN,ar⟩
  ·rw[ar];exact oE he
  ·rw[ar];exact aC
 rw[az sI];by_cases yt:c.kind=7
 ·rw[aF yt];unfold CY;split
  ·exact oE (by decide)
  ·rename_i l hl;split
   ·split
    ·exact fun _=>⟨gU (aCJ _ _) (gU (YR h hl) (by decide)),bG _,bG _⟩
    ·exact oE (by decide)
   ·rename_i h;exact oE h
 rw[az yt];by_cases yu:c.kind=8
 ·rw[aF yu];unfold Bv;split
  ·exact oE (by decide)
  ·exact fun _=>⟨bG _,bG _,bG _⟩
 rw[az yu];by_cases yv:c.kind=9
 ·rw[aF yv];unfold Bw;split
  ·exact oE (by decide)
  ·exact fun _=>⟨bG _,bG _,bG _⟩
 rw[az yv];by_cases yp:c.kind=10
 ·rw[aF yp];unfold DR;split
  ·split
   ·split
    ·exact oE (by decide)
    ·exact fun _=>⟨bG _,bG _,bG _⟩
   ·exact oE (by decide)
  ·rename_i h;exact oE h
 rw[az yp];by_cases yq:c.kind=11
 ·rw[aF yq];unfold Bx;split
  ·exact oE (by decide)
  ·rename_i w hw;exact fun _=>⟨bG _,gU (h.watch _ (rV hw)).2.1 (by decide),bG _⟩
 rw[az yq];by_cases yr:c.kind=12
 ·rw[aF yr];exact fun _=>⟨bG _,bG _,bG _⟩
 rw[az yr];rcases Pu (c:=c) (d:=⟨m,c2,[]⟩)with⟨e,he,ar⟩|⟨l,ax,mf,ar⟩
 ·rw[ar];exact oE he
 ·rw[ar];exact fun _=>⟨bG _,bG _,bG _⟩
theorem Mn{m:cb}(h:ey m)(c:b3):y3 (dz m c).2.1:=by
 unfold dz;split
 ·exact S9 _
 ·rename_i al;split
  ·rename_i hw;have:=aEG h (by simpa using al) hw
   split<;>exact this
  ·exact S9 _
theorem aCK(t:eS)(n k:Int):(v8 t n k).1.held.length<=t.held.length+1:=by
 unfold v8;split
 ·simp
 ·split
  ·simp
  ·split<;>simp
theorem RG(t:eS)(n k:Int):(fo t n k).1.held.length<=t.held.length:=by
 unfold fo;split
 ·rename_i h;have hm:(⟨k,n⟩:cM)∈t.held:=by simpa using h
  have h1:=List.length_erase_of_mem hm;have h2:=List.length_pos_of_mem hm;split
  ·simp only;omega
  ·simp only[bt,uv];omega
 ·exact bk _
theorem KF(n:Int):∀(l:List cM) (s:eS×List cM),(nx n l s).1.held.length<=s.1.held.length∧(nx n l s).2.length<=s.2.length+l.length
 |[],s=>⟨bk _,bk _⟩
 |h::l,s=>by
  have an:=RG s.1 n h.lock;unfold nx;split
  ·split
   ·obtain⟨h1,h2⟩:=KF n l ((fo s.1 n h.lock).1,s.2);simp only[cm]at h1 h2 ⊢;omega
   ·rename_i k hk;obtain⟨h1,h2⟩:=KF n l ((fo s.1 n h.lock).1,s.2++[⟨h.lock,k⟩]);simp only[cm,bt,ew]at h1 h2 ⊢;omega
  ·obtain⟨h1,h2⟩:=KF n l s;simp only[cm];omega
theorem LF(t:eS)(n:Int):(jX t n).1.held.length<=t.held.length∧(jX t n).2.length<=t.held.length:=by
 obtain⟨h1,h2⟩:=KF n t.held (⟨t.held,t.waits.filter fun w=> !decide (w.aR=n)⟩,[])
 simp only[ew,mC]at h1 h2;exact⟨h1,h2⟩
theorem Kq{α:Type}[DecidableEq α]:∀{l k:List α},l.Nodup->(∀x∈l,x∈k)->l.length<=k.length
 |[],_,_,_=>bG _
 |a::l,k,h,hs=>by
  rw[r1]at h;have aD:=hs a (by simp)
  have h1:=Kq (k:=k.erase a) h.2 fun x J=>(List.mem_erase_of_ne fun e=>h.1 (by rw[<-e];exact J)).2 (hs x (by simp[J]))
  rw[List.length_erase_of_mem aD]at h1;have h2:=List.length_pos_of_mem aD;simp only[cm];omega
theorem aCL{t:eS}{n:Nat}{has:Nat->List Int}(h:gN t n has):t.waits.length<=n:=by
 have h1:=Kq (l:=t.waits.map fun w=>w.aR.toNat) (k:=List.range n) (by
  unfold List.Nodup;rw[List.pairwise_map];refine h.vw.imp_of_mem fun{a b} aD aa aP e=>aP ?_
  obtain⟨i,ET, -⟩:=h.qU a aD;obtain⟨j,xX, -⟩:=h.qU b aa;omega) fun x J=>by
   obtain⟨w,hw,rfl⟩:=bP.1 J;obtain⟨i,ET,hi, -⟩:=h.qU w hw;exact xk.2 (by omega)
 simpa using h1
theorem Ta{t:eS}{n:Nat}{has:Nat->List Int}(h:gN t n has){i:Nat}(hi:i<n):(has i).length<=t.held.length:=by
 have h1:=Kq (l:=(has i).map fun k=>(⟨k,i⟩:cM)) (k:=t.held) (by
  unfold List.Nodup;rw[List.pairwise_map];exact(h.sn i).imp fun h e=>h (cM.mk.inj e).1) fun x J=>by
   obtain⟨k,hk,rfl⟩:=bP.1 J;exact(h.o4 k i).2 ⟨i,rfl,hi,hk⟩
 simpa using h1
theorem TY{x:bn}(c:eC x):x.g.waits.length<=40:=by
 have h1:=Kq (l:=x.g.waits.map fun w=>w.aR.toNat) (k:=List.range x.aq.length) (by
  unfold List.Nodup;rw[List.pairwise_map];refine c.x5.imp_of_mem fun{a b} aD aa aP e=>aP ?_
  obtain⟨i, -,ET, -⟩:=c.iS a aD;obtain⟨j, -,xX, -⟩:=c.iS b aa;omega) fun x J=>by
   obtain⟨w,hw,rfl⟩:=bP.1 J;obtain⟨i,t,ET,hi, -⟩:=c.iS w hw;have:=(cA.1 hi).1;exact xk.2 (by omega)
 have:=c.n;simp only[cP,List.length_range]at h1;omega
def ln(t:ba):Prop:=t.call.path.length<=1048576∧y3 t.bp
theorem aCM(t:ba)(u:eR):(dj t u).call=t.call∧(dj t u).bp=t.bp:=by
 unfold dj
 (repeat' split)<;>exact⟨rfl,rfl⟩
theorem Dt{t:ba}(h:ln t)(u:eR):ln (dj t u):=by
 obtain⟨h1,h2⟩:=aCM t u;unfold ln;rw[h1,h2];exact h
theorem W8{t:ba}(h:ln t)(k:t.has.length<=1048576):q8 t:=⟨h.1,k,gU h.2.1 (by decide),gU h.2.2.1 (by decide)⟩
theorem rD{p:ba->Prop}{l:List ba}{n:Int}{f:ba->ba}(h:∀t∈l,p t)(an:∀t∈l,p t->p (f t)):∀t∈gJ l n f,p t:=fun t aj=>by
 obtain⟨i,hi⟩:=Hm.1 aj;rw[wc]at hi;obtain⟨u,hu,e⟩:=jC.1 hi;have hm:=df hu;rw[<-e];split
 ·exact an _ hm (h _ hm)
 ·exact h _ hm
theorem Ur{l:List ba}(h:∀t∈l,ln t)(w:cM):∀t∈kJ l w,ln t:=rD h fun _ _ h=>Dt h _
theorem Mo:∀(g:List cM) {l:List ba},(∀t∈l,ln t)->∀t∈g.foldl kJ l,ln t
 |[],_,h=>h
 |w::g,_,h=>Mo g (Ur h w)
theorem Mp{l:List ba}(h:∀t∈l,ln t)(time n:Int):∀t∈kF time l n,ln t:=rD h fun _ _ h=>h
theorem Tb(time:Int):∀(b7:List Int) {l:List ba},(∀t∈l,ln t)->∀t∈b7.foldl (kF time) l,ln t
 |[],_,h=>h
 |n::b7,_,h=>Tb time b7 (Mp h time n)
theorem L9(who:Nat):∀(b7:List Nat) (s:eS×List ba),(∀t∈s.2,ln t)->(∀t∈(b7.foldl (k6 who) s).2,ln t)∧(b7.foldl (k6 who) s).1.held.length<=s.1.held.length
 |[],_,h=>⟨h,bk _⟩
 |n::b7,s,h=>by
  have h1:(∀t∈(k6 who s n).2,ln t)∧(k6 who s n).1.held.length<=s.1.held.length:=by
   unfold k6;split
   ·exact⟨Mo _ (rD h fun _ _ h=>h),(LF _ _).1⟩
   ·exact⟨h,bk _⟩
  obtain⟨h2,h3⟩:=L9 who b7 (k6 who s n) h1.1;exact⟨h2,gU h3 h1.2⟩
theorem aG3{l:List ba}{b:Nat}(h:∀t∈l,t.has.length<=b)(w:cM):∀t∈kJ l w,t.has.length<=b+1:=rD (fun t aj=>gU (h t aj) (pq _)) fun t aj _=>by
 rw[(AP _ _).1,bt];exact Nat.succ_le_succ (h t aj)
theorem TZ:∀(g:List cM) {l:List ba} {b:Nat},(∀t∈l,t.has.length<=b)->∀t∈g.foldl kJ l,t.has.length<=b+g.length
 |[],_,_,h=>h
 |w::g,_,b,h=>by
  have:=TZ g (aG3 h w);intro t aj;have:=this t aj;simp only[cm];omega
theorem Us{x:bn}{q:Nat}(hE:gN x.t x.aq.length (iT x.aq))(ag:x.aq.length<=40)(ah:x.t.held.length<=q)(aS:q<=100000)(aJ:x.g.waits.length<=40)(aD:∀t∈x.aq,ln t):r2 x:=by
 refine⟨ag,fun t aj=>W8 (aD t aj) ?_,by omega,by have:=aCL hE;omega,by omega⟩
 obtain⟨i,hi⟩:=Hm.1 aj;have:=Ta hE (cA.1 hi).1;rw[oG hi]at this;omega
structure j8 (q:Nat) (x:bn):Prop where
 ci:eC x
 held:x.t.held.length<=q
 q:∀t∈x.aq,ln t
theorem j8.IM{q:Nat}{x:bn}(b:j8 q x)(aS:q<=100000):r2 x:=Us b.ci.hE b.ci.n b.held aS (TY b.ci) b.q
theorem j8.tick{q:Nat}{x:bn}(b:j8 q x):j8 q (p8 x):=⟨b.ci.tick,b.held,b.q⟩
theorem j8.up{q r:Nat}{x:bn}(b:j8 q x)(h:q<=r):j8 r x:=⟨b.ci,gU b.held h,b.q⟩
theorem aF2{r:Int}{x:bn}(h:nR r=(x,0)):j8 0 x:=by
 refine⟨aGw h,?_,?_⟩;all_goals
  unfold nR at h;split at h
  ·rename_i aC;cases h;first|exact bk _|exact fun t aj=>by cases aj
  ·rename_i aC;exact absurd (bH Prod.snd h) aC
theorem j8.start{q:Nat}{x:bn}(b:j8 q x){k:b3}(hk:jh k):j8 q (mc x k).1:=by
 refine⟨b.ci.start hk,?_,?_⟩
 ·unfold mc;split<;>exact b.held
 ·unfold mc;split
  ·exact b.q
  ·intro t aj;rcases eX.1 aj with h|h
   ·exact b.q t h
   ·rw[dA]at h;subst h;exact⟨hk.path,bG _,bG _,bG _⟩
theorem T0{q:Nat}{x:bn}(b:j8 q x)(who:Nat){r:cb×hS×List bf}(ax:y3 r.2.1):∀t∈(jQ who x r).aq,ln t:=rD b.q fun t aj h=>Dt (t:={t with bp:=r.2.1,mark:=x.time,upto:=((x.ops++r.2.2).length:Int)}) ⟨h.1,ax⟩ ⟨3,0⟩
structure Le (q:Nat) (y:bn):Prop where
 h:y.t.held.length<=q
 q:∀t∈y.aq,ln t
theorem aEH{q:Nat}{x:bn}(b:j8 q x)(full:Bool)(who:Nat):Le q (mS full who x):=by
 unfold mS;split
 ·exact⟨b.held,Mp (rD (f:=fun t=>{t with bp:={c2 with err:=120}}) b.q fun t _ h=>⟨h.1,bG _,bG _,bG _⟩) _ _⟩
 ·exact⟨b.held,Tb _ _ b.q⟩
theorem aEI{q:Nat}{x:bn}(b:j8 q x)(who:Nat)(t:ba)(u:eR):Le (q+1) (oA who t u x):=by
 have ah:=b.held;have aC:x.t.held.length<=q+1:=by omega
 unfold oA;by_cases k1:u.kind=1
 ·rw[aF k1];have:=aCK x.t who u.lock;unfold vT;split
  ·exact⟨by simp only;omega,rD (f:=fun t=>dj t ⟨1,u.lock⟩) b.q fun t _ h=>Dt h _⟩
  ·exact⟨by simp only;omega,b.q⟩
 rw[az k1];by_cases k2:u.kind=2
 ·rw[aF k2];have:=RG x.t who u.lock;unfold vU;split
  ·exact⟨by simp only;omega,rD b.q fun t _ h=>(Dt h _:ln (dj t _))⟩
  ·exact⟨by simp only;omega,Ur (rD b.q fun t _ h=>(Dt h _:ln (dj t _))) _⟩
 rw[az k2];by_cases k3:u.kind=3
 ·rw[aF k3];have aS:=T0 b who (Mn b.ci.iz t.call);unfold xT;split
  ·obtain⟨dq,bZ⟩:=L9 who (List.range (jQ who x (dz x.m t.call)).aq.length) ((jQ who x (dz x.m t.call)).t,(jQ who x (dz x.m t.call)).aq) aS;exact⟨gU bZ aC,dq⟩
  ·exact⟨aC,aS⟩
 rw[az k3];by_cases k4:u.kind=4
 ·rw[aF k4];unfold vY;split
  ·exact⟨aC,Mp b.q _ _⟩
  ·exact⟨aC,b.q⟩
 rw[az k4];by_cases kE:u.kind=5
 ·rw[aF kE];exact⟨aC,rD (f:=fun t=>{dj t ⟨5,0⟩with end_:=x.time}) b.q fun t _ h=>(Dt h ⟨5,0⟩:ln (dj t ⟨5,0⟩))⟩
 ·rw[az kE];exact⟨aC,b.q⟩
theorem j8.step{q:Nat}{x:bn}(b:j8 q x)(p:Int)(full:Bool):j8 (q+1) (ow x p full):=by
 have h:Le (q+1) (ow x p full):=by
  unfold ow;cases vS x p with
  |none=>exact⟨gU b.held (pq _),b.q⟩
  |some who=>
   simp only;unfold wo;split
   ·have:=aEH b.tick full who;exact⟨gU this.h (pq _),this.q⟩
   ·exact aEI b.tick _ _ _
 exact⟨b.ci.step p full,h.h,h.q⟩
theorem j8.xW{q:Nat}{x:bn}(b:j8 q x)(aS:q<=100000){who:Nat}{t:ba}(aj:x.aq[who]?=some t):Ql who (jQ who x (dz x.m t.call)):=by
 have aKk:=T0 b who (Mn b.ci.iz t.call);obtain⟨cK,dc,ei⟩:=Na b.ci aj (dz x.m t.call);have ah:(jQ who x (dz x.m t.call)).t.held.length<=q:=b.held;have hl:(jQ who x (dz x.m t.call)).aq.length=x.aq.length:=yT _ _ _;have tD:(jQ who x (dz x.m t.call)).g.waits.length<=40:=show x.g.waits.length<=40 from TY b.ci
 have ag:=b.ci.n;generalize jQ who x (dz x.m t.call)=y at *;have key:∀k,k<=y.aq.length->r2 (hz who y k)∧(hz who y k).aq.length=y.aq.length∧(∀t∈(hz who y k).aq,ln t)∧(hz who y k).t.held.length<=q∧∀t∈(hz who y k).aq,t.has.length<=q:=fun k hk=>by
  obtain⟨k1,k2, -, -⟩:=M1 cK dc ei k hk;obtain⟨dq,bZ⟩:=L9 who (List.range k) (y.t,y.aq) aKk;have e:(hz who y k).aq.length=y.aq.length:=k1.1;have hE:gN (hz who y k).t (hz who y k).aq.length (iT (hz who y k).aq):=by rw[e];exact k2
  have hd:(hz who y k).t.held.length<=q:=gU bZ ah;refine⟨Us hE (by omega) hd aS tD dq,e,dq,hd,fun t aj=>?_⟩
  obtain⟨i,hi⟩:=Hm.1 aj;have:=Ta hE (cA.1 hi).1;rw[oG hi]at this;omega
 refine⟨fun k hk=>⟨(key k hk).1,(key k hk).2.1⟩,fun k t hk h=>((key k (by omega)).2.2.1 t (df h)).1,fun k p hk t h=>?_,fun k hk=>?_⟩
 ·obtain⟨-, -,k3,k4,kE⟩:=key k (by omega)
  have hd:=(LF (hz who y k).t k).2;refine W8 (Mo _ (rD (n:=k) (f:=nS) k3 fun _ _ h=>h) t h) ?_
  have:=TZ (((jX (hz who y k).t k).2.take p)) (rD (n:=k) (f:=nS) kE fun _ _ _=>bG _) t h
  rw[e8]at this;omega
 ·have hd:=(LF (hz who y k).t k).2;have:=(key k (by omega)).2.2.2.1
  omega
end
section
structure a9 where
 aR:Int
 dJ:Int
 mark:Int
 end_:Int
 call:b3
 bp:hS
deriving DecidableEq,Inhabited
def sj:hS:={c2 with err:=120}
def nh(i:Nat)(t:ba):a9:=⟨i,t.dJ,t.mark,if t.ended=true then t.end_ else 0,t.call,t.bp⟩
def rN(l:List ba)(i:Nat):Option a9:=l[i]?.bind fun t=>if t.done=true then some (nh i t)else none
def hK(l:List ba):List a9:=(List.range l.length).filterMap (rN l)
def BI(k:Option Int)(p:a9):Bool:=match k with
 |none=>true
 |some k=>decide (k<p.mark)
def zs(m:cb)(p:a9):Bool:=decide (p.dJ<p.mark)&&((decide (p.end_=0)||decide (p.mark<p.end_))&&(decide ((dz m p.call).2.1=p.bp)||decide (p.call.kind=12)&&decide (sj=p.bp)))
def fP:cb->Option Int->List a9->Bool
 |_,_,[]=>true
 |m,k,p::l=>BI k p&&(zs m p&&fP (dz m p.call).1 (some p.mark) l)
def jb(m:cb)(l:List a9):cb:=l.foldl (fun m p=>(dz m p.call).1) m
def Ut(l:List a9):Prop:=l.Pairwise fun a b=>¬(b.end_≠0∧b.end_<a.dJ)
def pf(k:Option Int)(l:List a9):Option Int:=match l.getLast? with
 |none=>k
 |some p=>some p.mark
theorem Zs(k:Option Int)(p:a9)(l:List a9):pf k (p::l)=pf (some p.mark) l:=by
 unfold pf;cases l with
 |nil=>rfl
 |cons q l=>rw[List.getLast?_cons_cons];cases h:(q::l).getLast? with
  |none=>simp at h
  |some r=>rfl
theorem Ma(a b:List a9):∀(m:cb) (k:Option Int),fP m k (a++b)=(fP m k a&&fP (jb m a) (pf k a) b):=by
 induction a with
 |nil=>intro m k;simp[fP,jb,pf]
 |cons p a ay=>
  intro m k;rw[gi,fP,fP,ay,Zs];simp only[Bool.and_assoc];rfl
theorem Sl(m:cb)(a b:List a9):jb m (a++b)=jb (jb m a) b:=s4
theorem Tc{l:List a9}(h1:l.Pairwise fun a b=>a.mark<b.mark)(h2:∀p∈l,p.dJ<p.mark∧(p.end_=0∨p.mark<p.end_)):Ut l:=
 h1.imp_of_mem fun{a b} aD aa h=>by
  have:=h2 a aD;have:=h2 b aa;omega
theorem Df:∀(l:List a9) (m:cb) (k:Option Int),fP m k l=true->(l.Pairwise fun a b=>a.mark<b.mark)∧(∀p∈l,(∀j,k=some j->j<p.mark)∧p.dJ<p.mark∧(p.end_=0∨p.mark<p.end_))
 |[],_,_,_=>⟨.nil,fun p ae=>by cases ae⟩
 |q::l,m,k,h=>by
  rw[fP]at h;simp only[dD,zs,xq,hR]at h;obtain⟨aC,⟨h1,h2, -⟩,h3⟩:=h;obtain⟨i1,i2⟩:=Df l _ _ h3;have hk:∀j,k=some j->j<q.mark:=fun j e=>by subst e;simpa[BI]using aC
  refine⟨qd.2 ⟨fun p ae=>(i2 p ae).1 _ rfl,i1⟩,fun p ae=>?_⟩
  rcases c7.1 ae with rfl|ae
  ·exact⟨hk,h1,h2⟩
  ·obtain⟨dq,bZ,dO⟩:=i2 p ae;exact⟨fun j e=>Int.lt_trans (hk j e) (dq _ rfl),bZ,dO⟩
theorem Td(f:a9->a9):∀(l:List a9) (m:cb) (k:Option Int),(∀p∈l,(f p).mark=p.mark∧(f p).dJ=p.dJ∧(f p).call=p.call∧((f p).end_=0∨p.mark<(f p).end_)∧((f p).bp=p.bp∨p.call.kind=12∧(f p).bp=sj))->fP m k l=true->fP m k (l.map f)=true∧jb m (l.map f)=jb m l
 |[],_,_,_,h=>⟨h,rfl⟩
 |q::l,m,k,an,h=>by
  rw[fP]at h;simp only[dD]at h;obtain⟨aC,h1,h3⟩:=h;obtain⟨cc,cI,gZ,mZ,th⟩:=an q (by simp)
  obtain⟨i1,i2⟩:=Td f l (dz m q.call).1 (some q.mark) (fun p ae=>an p (by simp[ae])) h3
  rw[dn,fP];refine⟨?_,?_⟩
  ·simp only[dD];rw[gZ,cc];refine⟨?_,?_,i1⟩
   ·cases k with
    |none=>rfl
    |some j=>simpa[BI,cc]using aC
   ·simp only[zs,dD,xq,hR]at h1 ⊢;rw[cc,cI,gZ];refine⟨h1.1,mZ,?_⟩;rcases th with e|⟨ar,au⟩
    ·rw[e];exact h1.2.2
    ·exact .inr ⟨ar,au.symm⟩
  ·unfold jb at i2 ⊢;rw[nZ,nZ,gZ];exact i2
structure n2 (time:Int) (a b:ba):Prop where
 call:b.call=a.call
 dJ:b.dJ=a.dJ
 mark:b.mark=a.mark
 done:b.done=a.done
 bp:b.bp=a.bp∨a.call.kind=12∧a.done=true∧b.bp=sj
 end_:(b.ended=a.ended∧b.end_=a.end_)∨(a.done=true∧a.mark<time∧b.ended=true∧b.end_=time)
theorem n2.refl(time:Int)(a:ba):n2 time a a:=⟨rfl,rfl,rfl,rfl,.inl rfl,.inl ⟨rfl,rfl⟩⟩
theorem n2.alike{time:Int}{a b:ba}(h:l8 a b):n2 time a b:=⟨h.1,h.2.2.2.2.2.1,h.2.2.2.2.2.2.1,h.2.1,.inl h.2.2.2.2.1,.inl ⟨h.2.2.1,h.2.2.2.2.2.2.2⟩⟩
theorem n2.trans{time:Int}{a b d:ba}(h:n2 time a b)(k:n2 time b d):n2 time a d:=by
 refine⟨k.call.trans h.call,k.dJ.trans h.dJ,k.mark.trans h.mark,k.done.trans h.done,?_,?_⟩
 ·rcases k.bp with e|⟨ar,au,bd⟩
  ·rw[e];exact h.bp
  ·exact .inr ⟨by rw[<-h.call];exact ar,by rw[<-h.done];exact au,bd⟩
 ·rcases k.end_ with⟨ar,au⟩|⟨ar,dP,au,bd⟩
  ·rw[ar,au];exact h.end_
  ·exact .inr ⟨by rw[<-h.done];exact ar,by rw[<-h.mark];exact dP,au,bd⟩
def n3(time:Int)(l k:List ba):Prop:=k.length=l.length∧∀(i:Nat) t,l[i]?=some t->∃t',k[i]?=some t'∧n2 time t t'
theorem n3.refl(time:Int)(l:List ba):n3 time l l:=⟨rfl,fun i t h=>⟨t,h,n2.refl _ t⟩⟩
theorem n3.trans{time:Int}{a b d:List ba}(h:n3 time a b)(k:n3 time b d):n3 time a d:=⟨k.1.trans h.1,fun i t aj=>by
 obtain⟨u,hu,h1⟩:=h.2 i t aj;obtain⟨v,aL,h2⟩:=k.2 i u hu;exact⟨v,aL,h1.trans h2⟩⟩
theorem Bs{time:Int}{l:List ba}{n:Int}{f:ba->ba}(h:∀(i:Nat) t,n=(i:Int)->l[i]?=some t->n2 time t (f t)):n3 time l (gJ l n f):=by
 refine⟨yT l n f,fun i t aj=>?_⟩
 rw[wc,aj,rY];split
 ·rename_i e;exact⟨_,rfl,h i t e aj⟩
 ·exact⟨_,rfl,n2.refl _ t⟩
theorem aF3{time:Int}(l:List ba)(w:cM):n3 time l (kJ l w):=Bs fun _ t _ _=>n2.alike (H5 t _)
theorem Mb{time:Int}{l:List ba}{n:Int}(h:∀(i:Nat) t,n=(i:Int)->l[i]?=some t->t.done=true∧t.mark<time):n3 time l (kF time l n):=Bs fun i t e aj=>⟨rfl,rfl,rfl,rfl,.inl rfl,.inr ⟨(h i t e aj).1,(h i t e aj).2,rfl,rfl⟩⟩
theorem Sm{time:Int}:∀(b7:List Int) {l:List ba},(∀n∈b7,∀(i:Nat) t,n=(i:Int)->l[i]?=some t->t.done=true∧t.mark<time)->n3 time l (b7.foldl (kF time) l)
 |[],l,_=>n3.refl _ l
 |n::b7,l,h=>by
  have h1:n3 time l (kF time l n):=Mb (h n (by simp))
  refine h1.trans (Sm b7 fun J3 ag i t e aj=>?_)
  have hl:i<l.length:=by rw[<-h1.1];exact(cA.1 aj).1
  obtain⟨u,hu,ax⟩:=h1.2 i _ (c0 hl);rw[aj]at hu;cases hu;rw[ax.done,ax.mark];exact h J3 (by simp[ag]) i _ e (c0 hl)
structure iO (da:cb) (l:List a9) (x:bn):Prop where
 perm:l.Perm (hK x.aq)
 ok:fP da none l=true
 last:jb da l=x.m
 time:0<=x.time
 aR:∀t∈x.aq,0<t.dJ∧t.dJ<=x.time∧(t.done=true->t.dJ<t.mark∧t.mark<=x.time)∧(t.ended=true->t.mark<t.end_∧t.end_<=x.time)∧(t.ended=false->t.end_=0)
theorem GK{l:List ba}{p:a9}(h:p∈hK l):∃(i:Nat) (t:ba),l[i]?=some t∧t.done=true∧p=nh i t:=by
 unfold hK rN at h;obtain⟨i, -,h⟩:=List.mem_filterMap.1 h;obtain⟨t,aj,h⟩:=xn.1 h;split at h
 ·rename_i hd;exact⟨i,t,aj,hd,(nY h).symm⟩
 ·cases h
theorem iO.tick{da:cb}{l:List a9}{x:bn}(h:iO da l x)(aj:x.time<1000000):iO da l (p8 x)∧(p8 x).time=x.time+1:=by
 have e:(p8 x).time=x.time+1:=by
  have:=h.time;show IntKind.i64.wrap (x.time+1)=_;rw[cB]
 refine⟨⟨h.perm,h.ok,h.last,by rw[e];have:=h.time;omega,fun t hm=>?_⟩,e⟩
 obtain⟨a,b,c,d,f⟩:=h.aR t hm;rw[e];exact⟨a,by omega,fun k=>⟨(c k).1,by have:=(c k).2;omega⟩,fun k=>⟨(d k).1,by have:=(d k).2;omega⟩,f⟩
theorem GL{α β:Type}{f g:α->Option β}:∀{l:List α},(∀x∈l,f x=g x)->l.filterMap f=l.filterMap g
 |[],_=>rfl
 |a::l,h=>by rw[yV,yV,h a (by simp),GL fun x J=>h x (by simp[J])]
theorem iO.same{da:cb}{l:List a9}{x y:bn}(h:iO da l x)(hm:y.m=x.m)(aj:y.time=x.time)(ax:n3 x.time x.aq y.aq):∃g6,iO da g6 y:=by
 have wN:∀t'∈y.aq,∃t∈x.aq,n2 x.time t t':=fun t' dr=>by
  obtain⟨i,hi⟩:=Hm.1 dr;have hl:i<x.aq.length:=by rw[<-ax.1];exact(cA.1 hi).1
  obtain⟨u,hu,k⟩:=ax.2 i _ (c0 hl);rw[hi]at hu;cases hu;exact⟨_,hv hl,k⟩
 obtain⟨f,an⟩:∃f:a9->a9,f=fun p=>nh p.aR.toNat (y.aq.getD p.aR.toNat (nU sf)):=⟨_,rfl⟩
 have Cw:∀(i:Nat) t t',x.aq[i]?=some t->y.aq[i]?=some t'->f (nh i t)=nh i t':=fun i t t' h1 h2=>by
  rw[an];show nh (i:Int).toNat (y.aq.getD (i:Int).toNat _)=_;rw[j6,eP,h2];rfl
 have hd:hK y.aq=(hK x.aq).map f:=by
  unfold hK;rw[ax.1,List.map_filterMap];refine GL fun i hi=>?_
  have hl:=xk.1 hi;obtain⟨t',h2,k⟩:=ax.2 i _ (c0 hl);unfold rN;rw[h2,c0 hl];simp only[lb];rw[k.done];split
  ·rw[rY,Cw i _ t' (c0 hl) h2]
  ·rfl
 have bl:∀p∈l,(f p).mark=p.mark∧(f p).dJ=p.dJ∧(f p).call=p.call∧((f p).end_=0∨p.mark<(f p).end_)∧((f p).bp=p.bp∨p.call.kind=12∧(f p).bp=sj):=fun p ae=>by
  obtain⟨i,t,hi,ky,rfl⟩:=GK (h.perm.mem_iff.1 ae);obtain⟨t',h2,k⟩:=ax.2 i t hi;rw[Cw i t t' hi h2];have CC:=df hi;refine⟨k.mark,k.dJ,k.call,?_,?_⟩
  ·show(if t'.ended=true then t'.end_ else 0)=0∨t.mark<(if t'.ended=true then t'.end_ else 0)
   split
   ·rename_i he;refine .inr ?_;rcases k.end_ with⟨ar,au⟩|⟨-,dP, -,bd⟩
    ·rw[au];exact((h.aR t CC).2.2.2.1 (by rw[<-ar];exact he)).1
    ·rw[bd];exact dP
   ·exact .inl rfl
  ·rcases k.bp with e|⟨ar, -,bd⟩
   ·exact .inl e
   ·exact .inr ⟨ar,bd⟩
 obtain⟨cc,cI⟩:=Td f l da none bl h.ok;refine⟨l.map f,⟨by rw[hd];exact h.perm.map f,cc,by rw[cI,h.last,hm],by rw[aj];exact h.time,fun t' dr=>?_⟩⟩
 obtain⟨t,rv,k⟩:=wN t' dr;obtain⟨a,b,c,d,f⟩:=h.aR t rv;rw[aj,k.dJ,k.mark,k.done];refine⟨a,b,c,fun he=>?_,fun he=>?_⟩
 ·rcases k.end_ with⟨ar,au⟩|⟨-,dP, -,bd⟩
  ·rw[au];exact d (by rw[<-ar];exact he)
  ·rw[bd];exact⟨dP,iM _⟩
 ·rcases k.end_ with⟨ar,au⟩|⟨-, -,bd, -⟩
  ·rw[au];exact f (by rw[<-ar];exact he)
  ·rw[he]at bd;cases bd
theorem Rv{α β:Type}(g x0:α->Option β)(w:α)(p:β)(aC:g w=none)(h1:x0 w=some p)(aP:∀i,i≠w->x0 i=g i):∀(r:List α),r.Nodup->w∈r->(r.filterMap x0).Perm (p::r.filterMap g)
 |[],_,h=>by cases h
 |a::r,ag,hw=>by
  rw[r1]at ag;by_cases e:a=w
  ·subst e;have al:r.filterMap x0=r.filterMap g:=GL fun i hi=>aP i fun e=>ag.1 (e▸hi)
   rw[yV,yV,aC,h1,al]
  ·have gq:w∈r:=by
    rcases c7.1 hw with au|h
    ·exact absurd au.symm e
    ·exact h
   have ay:=Rv g x0 w p aC h1 aP r ag.2 gq;rw[yV,yV,aP a e];cases g a with
   |none=>exact ay
   |some b=>exact(ay.cons b).trans (.swap ..)
theorem iO.oT{da:cb}{l:List a9}{x:bn}(h:iO da l x)(u0:∀t∈x.aq,t.done=true->t.mark<x.time)(Fe:∀t∈x.aq,t.dJ<x.time){who:Nat}{t:ba}(aj:x.aq[who]?=some t)(hd:t.done=false)(he:t.ended=false):
  iO da (l++[nh who (xU x (dz x.m t.call) t)]) (jQ who x (dz x.m t.call)):=by
 have hi:=(cA.1 aj).1;have aa:=Fe t (df aj);obtain⟨t',rv⟩:∃t',xU x (dz x.m t.call) t=t':=⟨_,rfl⟩;have q:t'.call=t.call∧t'.dJ=t.dJ∧t'.mark=x.time∧t'.done=true∧t'.ended=false∧t'.bp=(dz x.m t.call).2.1:=by
  rw[<-rv];exact⟨rfl,rfl,rfl,rfl,he,rfl⟩
 obtain⟨aQ,aO,bF,c9,eA,j3⟩:=q;unfold jQ;rw[mr aj,rv];have ae:nh who t'=⟨who,t.dJ,x.time,0,t.call,(dz x.m t.call).2.1⟩:=by
  unfold nh;rw[aQ,aO,bF,eA,j3];rfl
 refine⟨?_,?_,?_,h.time,fun u hu=>?_⟩
 ·unfold hK;simp only[gj];refine(List.perm_append_singleton _ _).trans (.trans (h.perm.cons _) (.symm ?_));refine Rv (rN x.aq) (rN (x.aq.set who t')) who (nh who t') ?_ ?_ (fun i aP=>?_) _ List.nodup_range (xk.2 hi)
  ·unfold rN;rw[aj,lb,az (by rw[hd];decide)]
  ·unfold rN;rw[oI hi,lb,aF c9]
  ·unfold rN;rw[gS (fun e=>aP e.symm)]
 ·rw[Ma,h.ok,h.last,hG,fP,fP,Bool.and_true,ae];simp only[dD];refine⟨?_,?_⟩
  ·unfold pf BI;cases hl:l.getLast? with
   |none=>rfl
   |some p=>
    obtain⟨i,u,hu,aKx,rfl⟩:=GK (h.perm.mem_iff.1 (List.mem_of_getLast? hl));exact cF (u0 u (df hu) aKx)
  ·unfold zs;simp only[dD,xq,hR];exact⟨aa,.inl trivial,.inl trivial⟩
 ·rw[Sl,h.last,ae];rfl
 ·rcases La hu with hu|rfl
  ·exact h.aR u hu
  ·rw[aO,bF];have:=h.aR t (df aj);refine⟨this.1,this.2.1,fun _=>⟨aa,iM _⟩,fun e=>(by rw[eA]at e;cases e),fun _=>?_⟩
   rw[<-rv];exact this.2.2.2.2 he
theorem aCN{r:Int}{x:bn}(h:nR r=(x,0)):iO x.m [] x:=by
 unfold nR at h;split at h
 ·cases h;exact⟨.refl _,rfl,rfl,iM _,fun t aj=>by cases aj⟩
 ·rename_i aC;exact absurd (bH Prod.snd h) aC
theorem iO.start{da:cb}{l:List a9}{x:bn}(h:iO da l x)(aj:x.time<1000000)(k:b3):iO da l (mc x k).1:=by
 obtain⟨h1,e⟩:=h.tick aj;have ku:IntKind.i64.wrap (x.time+1)=x.time+1:=e;have aC:=h.time;unfold mc;split
 ·exact h
 ·refine⟨?_,h.ok,h.last,h1.time,fun t hm=>?_⟩
  ·have hd:hK (x.aq++[{nU k with dJ:=IntKind.i64.wrap (x.time+1)}])=hK x.aq:=by
    unfold hK;rw[bt,uv,List.range_succ,List.filterMap_append];have ar:List.filterMap (rN (x.aq++[{nU k with dJ:=IntKind.i64.wrap (x.time+1)}])) [x.aq.length]=[]:=by
     rw[yV];unfold rN;rw[qf (bk _),Nat.sub_self];rfl
    rw[ar,b2];refine GL fun i hi=>?_
    unfold rN;rw[iC (xk.1 hi)]
   show l.Perm (hK (x.aq++[_]));rw[hd];exact h.perm
  ·rcases eX.1 hm with hm|hm
   ·exact h1.aR t hm
   ·rw[dA]at hm;subst hm;show 0<IntKind.i64.wrap (x.time+1)∧IntKind.i64.wrap (x.time+1)<=IntKind.i64.wrap (x.time+1)∧_;exact⟨by rw[ku];omega,iM _,fun h=>(by cases h),fun h=>(by cases h),fun _=>rfl⟩
theorem iO.ot{da:cb}{l:List a9}{x:bn}(h:iO da l x)(c:eC x)(u0:∀t∈x.aq,t.done=true->t.mark<x.time)(full:Bool){who:Nat}(aJ:ie x.g who=true):∃g6,iO da g6 (mS full who x):=by
 have bS:∀w∈x.g.waits,∀(i:Nat) t,w.aR=(i:Int)->x.aq[i]?=some t->t.call.kind=12∧t.done=true∧t.mark<x.time:=fun w hw i t e aj=>by
  obtain⟨j,u,ar,hu,hd, -,hk, -⟩:=c.iS w hw;have:j=i:=by omega
  subst this;rw[aj]at hu;cases hu;exact⟨hk,hd,u0 _ (df aj) hd⟩
 unfold mS;split
 ·unfold ie at aJ;obtain⟨w,hw,e⟩:=List.any_eq_true.1 aJ;have au:w.aR=(who:Int):=by simpa using e
  refine h.same rfl rfl ?_;have aU:n3 x.time x.aq (gJ x.aq who fun t=>{t with bp:={c2 with err:=120}}):=Bs fun i t ET aj=>by
   obtain⟨dq,bZ, -⟩:=bS w hw i t (by omega) aj
   exact⟨rfl,rfl,rfl,rfl,.inr ⟨dq,bZ,rfl⟩,.inl ⟨rfl,rfl⟩⟩
  refine aU.trans (Mb fun i t ET aj=>?_)
  have hl:i<x.aq.length:=by rw[<-aU.1];exact(cA.1 aj).1
  obtain⟨u,hu,ax⟩:=aU.2 i _ (c0 hl);rw[aj]at hu;cases hu;rw[ax.done,ax.mark];exact(bS w hw i _ (by omega) (c0 hl)).2
 ·refine h.same rfl rfl (Sm _ fun n ag i t e aj=>?_)
  unfold wa at ag;obtain⟨w,hw,au⟩:=bP.1 ag;exact(bS w (km.1 hw).1 i t (by omega) aj).2
theorem iO.l5{da:cb}{l:List a9}{x:bn}(h:iO da l x)(c:eC x)(u0:∀t∈x.aq,t.done=true->t.mark<x.time)(Fe:∀t∈x.aq,t.dJ<x.time){who:Nat}{t:ba}(aj:x.aq[who]?=some t)(he:t.ended=false):∃g6,iO da g6 (oA who t (fM x.m.log.nodes t) x):=by
 have hm:=df aj;have Al:∀(i:Nat) u,(who:Int)=(i:Int)->x.aq[i]?=some u->u=t:=fun i u e h=>by
  have:i=who:=by omega
  subst this;rw[aj]at h;exact(nY h).symm
 obtain⟨u,hu⟩:∃u,fM x.m.log.nodes t=u:=⟨_,rfl⟩;have an:=L0 x.m.log.nodes he;rw[hu]at an ⊢;obtain⟨a,k⟩:=u;simp only at an;unfold oA;simp only;rcases an with rfl|rfl|an|rfl|rfl
 ·rw[aF rfl];unfold vT;split
  ·exact h.same rfl rfl (Bs (f:=fun t=>dj t ⟨1,k⟩) fun _ _ _ _=>n2.alike (H5 _ _))
  ·exact h.same rfl rfl (n3.refl _ _)
 ·rw[az (by decide),aF rfl]
  have aU:n3 x.time x.aq (gJ x.aq who fun t=>dj t ⟨2,k⟩):=Bs fun _ t _ _=>by
   obtain⟨-,bZ,dO,kc,oL,s7,D7,D8,D9, -⟩:=C7 t k;exact n2.alike ⟨bZ,dO,kc,oL,s7,D7,D8,D9⟩
  unfold vU;split
  ·exact h.same rfl rfl aU
  ·exact h.same rfl rfl (aU.trans (aF3 _ _))
 ·cases an;rw[az (by decide),az (by decide),aF rfl]
  have hd:=h.oT u0 Fe aj (Ip hu).2 he;unfold xT;split
  ·obtain⟨cK,dc,ei⟩:=Na c aj (dz x.m t.call);obtain⟨k1, -, -,k4⟩:=M1 (who:=who) cK dc ei _ (bk _);refine hd.same rfl rfl ⟨k1.1,fun i v hi=>?_⟩
   have hl:=(cA.1 hi).1;rw[<-k1.1]at hl;obtain⟨z,a2,aD⟩:=k4 i _ (c0 hl);rw[hi]at a2;cases a2;exact⟨_,c0 hl,n2.alike aD⟩
  ·exact⟨_,hd⟩
 ·rw[az (by decide),az (by decide),az (by decide),aF rfl]
  unfold vY;obtain⟨-, -,hd, -⟩:=Ti hu;split
  ·exact h.same rfl rfl (Mb fun i u e hi=>by rw[Al i u e hi];exact⟨hd,u0 t hm hd⟩)
  ·exact h.same rfl rfl (n3.refl _ _)
 ·rw[az (by decide),az (by decide),az (by decide),az (by decide),aF rfl]
  obtain⟨-, -,hd, -⟩:=Lo hu;unfold xL;exact h.same rfl rfl (Bs (f:=fun t=>{dj t ⟨5,0⟩with end_:=x.time}) fun i u e hi=>by rw[Al i u e hi];exact⟨rfl,rfl,rfl,rfl,.inl rfl,.inr ⟨hd,u0 t hm hd,rfl,rfl⟩⟩)
theorem iO.step{da:cb}{l:List a9}{x:bn}(h:iO da l x)(c:eC x)(aj:x.time<1000000)(p:Int)(full:Bool):∃g6,iO da g6 (ow x p full):=by
 unfold ow;cases ae:vS x p with
 |none=>exact⟨l,h⟩
 |some who=>
  obtain⟨t,nJ,he,hw, -⟩:=MK (L1 ae);obtain⟨h1,e⟩:=h.tick aj;have u0:∀t∈(p8 x).aq,t.done=true->t.mark<(p8 x).time:=fun t hm hd=>by rw[e];have:=((h.aR t hm).2.2.1 hd).2;omega
  have Fe:∀t∈(p8 x).aq,t.dJ<(p8 x).time:=fun t hm=>by rw[e];have:=(h.aR t hm).2.1;omega
  simp only;unfold wo;have cG:x.aq.getD who (nU sf)=t:=by rw[eP,nJ];rfl
  rw[cG];cases aJ:ie x.g who with
  |true=>rw[aF rfl];exact h1.ot c.tick u0 full aJ
  |false=>rw[az (by decide)];exact h1.l5 c.tick u0 Fe nJ he
end
section
open Go.Srt
def wX(a b:a9):Bool:=decide (a.mark<b.mark)
theorem Mc:∀(l D:List a9),D.Perm l->l.Pairwise (fun a b=>a.mark<b.mark)->D.Pairwise (fun a b=>wX b a=false)->D=l
 |[],D,h,_,_=>List.perm_nil.1 h
 |a::l,[],h,_,_=>absurd h.length_eq (by simp)
 |a::l,b::D,h,hl,cD=>by
  rw[qd]at hl cD;have e:b=a:=by
   rcases c7.1 (h.mem_iff.1 (List.mem_cons_self (a:=b) (l:=D)))with e|aa
   ·exact e
   ·rcases c7.1 (h.mem_iff.2 (List.mem_cons_self (a:=a) (l:=l)))with e|aD
    ·exact e.symm
    ·have h1:=hl.1 b aa;have h2:=cD.1 a aD;unfold wX at h2;rw[cF h1]at h2;cases h2
  subst e;rw[Mc l D h.cons_inv hl.2 cD.2]
theorem aEJ{lt:a9->a9->Bool}(hw:SWO lt){a b:List a9}(h:fm lt a b):b.Perm a:=by
 rw[List.perm_iff_count];intro x;have J:eqv lt x x=true:=(H8 lt).2 ⟨hw.CP x,hw.CP x⟩;rw[<-List.count_filter (p:=eqv lt x) (l:=b) J,h.2 x,List.count_filter J]
theorem Uu:SWO wX:=by
 refine⟨?_,?_,?_⟩<;>(unfold wX;intros;simp_all<;>omega)
theorem aEK{da:cb}{l D:List a9}{x:bn}(h:iO da l x)(hs:e9 wX D)(an:fm wX (hK x.aq) D):D=l:=
 Mc l D ((aEJ Uu an).trans h.perm.symm) (Df l da none h.ok).1 hs
theorem aAu(l:List ba)(t:ba):hK (l++[t])=hK l++if t.done=true then[nh l.length t]else[]:=by
 unfold hK;rw[bt,uv,List.range_succ,List.filterMap_append];congr 1
 ·refine GL fun i hi=>?_
  unfold rN;rw[iC (xk.1 hi)]
 ·rw[yV];unfold rN;rw[qf (bk _),Nat.sub_self];simp only[y0,lb,List.filterMap_nil];split
  ·rename_i h;split at h
   ·cases h
   ·rename_i h2;rw[az h2]
  ·rename_i p h;split at h
   ·rename_i h2;rw[aF h2];cases h;rfl
   ·cases h
theorem RH{l:List ba}{i:Nat}(h:i<l.length):hK (l.take (i+1))=hK (l.take i)++if l[i].done=true then[nh i l[i]]else[]:=by
 rw[eB h,aAu,e8,uu (Nat.le_of_lt h)]
theorem aCO{da:cb}{l:List a9}{x:bn}(h:iO da l x){p:a9}(ae:p∈l):∃(i:Nat) (t:ba),x.aq[i]?=some t∧t.done=true∧p=nh i t∧p.dJ<p.mark∧t.end_=p.end_∧(t.ended=false->p.end_=0)∧(t.ended=true->p.mark<p.end_∧0<p.end_):=by
 obtain⟨i,t,aj,hd,rfl⟩:=GK (h.perm.mem_iff.1 ae);obtain⟨a,b,c,d,f⟩:=h.aR t (df aj);refine⟨i,t,aj,hd,rfl,(c hd).1,?_,fun he=>?_,fun he=>?_⟩
 ·show t.end_=if t.ended=true then t.end_ else 0
  split
  ·rfl
  ·rename_i he;exact f (by simpa using he)
 ·show(if t.ended=true then t.end_ else 0)=0
  rw[az (by rw[he];decide)]
 ·show t.mark<(if t.ended=true then t.end_ else 0)∧0<(if t.ended=true then t.end_ else 0)
  rw[aF he];have:=(c hd).1;have:=(d he).1;exact⟨this,by omega⟩
theorem aCP(m:cb)(k:Int)(l:List a9):fP m (some k) l=((match l.head? with|none=>true|some p=>decide (k<p.mark))&&fP m none l):=by
 cases l with
 |nil=>rfl
 |cons p l=>rw[fP,fP];rfl
theorem aAv(m:cb)(l:List a9)(k:Nat)(hk:k<=l.length):fP m none l=((fP m none (l.take k)&&fP (jb m (l.take k)) none (l.drop k))&&(decide (k=0)||(decide (k=l.length)||decide ((l.getD (k-1) default).mark<(l.getD k default).mark)))):=by
 conv=>lhs;rw[<-jf k l,Ma]
 by_cases aC:k=0
 ·subst aC;simp[pf,fP,jb]
 ·have Om:(l.take k).getLast?=some (l.getD (k-1) default):=by
   rw[List.getLast?_eq_getElem?,e8,uu hk,List.getElem?_take,aF (by omega),eP,c0 (by omega)]
   rfl
  have hm:pf none (l.take k)=some (l.getD (k-1) default).mark:=by unfold pf;rw[Om]
  rw[hm,aCP,b8 aC,vK,Bool.and_assoc];congr 1;rw[Bool.and_comm];congr 1;by_cases hl:k=l.length
  ·rw[cF hl,Bool.true_or,Ho (by omega)]
   rfl
  ·rw[b8 hl,vK,List.head?_drop,eP (i:=k),c0 (by omega)]
   rfl
theorem ME:∀(l:List a9) (m:cb) (k:Option Int),fP m k l=true->∀(i:Nat) p,l[i]?=some p->zs (jb m (l.take i)) p=true
 |[],_,_,_,_,_,h=>by simp at h
 |q::l,m,k,h,i,p,ae=>by
  rw[fP]at h;simp only[dD]at h;cases i with
  |zero=>cases ae;exact h.2.1
  |succ i=>exact ME l _ _ h.2.2 i p ae
theorem R3(m:cb){c:b3}(hk:c.kind=12):(dz m c).2.1.err≠120:=by
 have hw:ih c ⟨m,c2,[]⟩=(0,⟨m,c2,[]⟩):=by
  unfold ih;rw[hk];rfl
 unfold dz;split
 ·show(180:Int)≠120;decide
 ·rw[hw,aF rfl,aF rfl];show(0:Int)≠120;decide
theorem R4{m:cb}{l:List a9}{k:Nat}{p p':a9}(h:fP m none l=true)(ae:l[k]?=some p)(al:p'.call=p.call)(he:p'.bp.err=p.bp.err)(aP:p'.bp≠p.bp):fP m none (l.set k p')=false:=by
 cases aa:fP m none (l.set k p')with
 |false=>rfl
 |true=>
  have hk:=(cA.1 ae).1;have h1:=ME l m none h k p ae;have h2:=ME _ m none aa k p' (oI hk);rw[DN (bk k)]at h2;unfold zs at h1 h2;simp only[dD,xq,hR]at h1 h2;rw[al]at h2;have an:sj.err=120:=rfl;rcases h1.2.2 with a|⟨a,gx⟩<;>rcases h2.2.2 with b|⟨b,cN⟩
  ·exact absurd (b.symm.trans a) aP
  ·exact absurd (by rw[a,<-he,<-cN,an]) (R3 (jb m (l.take k)) b)
  ·exact absurd (by rw[b,he,<-gx,an]) (R3 (jb m (l.take k)) a)
  ·exact absurd (cN.symm.trans gx) aP
theorem aAw{m:cb}{l:List a9}{k:Nat}(h:fP m none l=true)(aC:0<k)(hk:k<l.length):fP m none ((l.set k l[0]).set 0 l[k])=false:=by
 cases aa:fP m none ((l.set k l[0]).set 0 l[k])with
 |false=>rfl
 |true=>
  have h1:=xm.1 (Df _ _ _ h).1 0 k (by omega) hk aC
  have h2:=xm.1 (Df _ _ _ aa).1 0 k (by simp;omega) (by simp;omega) aC
  simp only[vE,List.getElem_set_ne (show(0:Nat)≠k by omega)]at h2
  omega
end
end Go.Proofs.YthafnbmdmfoobaaGreatDoor
