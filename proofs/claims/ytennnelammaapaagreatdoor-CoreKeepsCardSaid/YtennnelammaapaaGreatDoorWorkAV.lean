/- What the functions of this seat answer (22 of 38). No condition. -/
import Derived.Test.YtennnelammaapaaGreatDoorWorkAQ
import Derived.Test.YtennnelammaapaaGreatDoorWorkAU
set_option linter.unusedSimpArgs false
set_option linter.unusedVariables false
set_option maxRecDepth 100000
set_option maxHeartbeats 16000000
namespace Go.Proofs.YtennnelammaapaaGreatDoor
theorem aBr(b:Bool)(l:List Hld)(fn:Fn)(fs cs:List AV)(p:Hld→Bool)(H:AHeap)(hf:∀c,FnV Tryz.prog (.func fn fs cs) [hdA c] H (.bool (p c))):
  bH Tryz.prog 37 [.sl b (l.map hdA),.func fn fs cs] H (.int .i64 (cQ p l)):=by
 refine fP fun hok _=>?_
 have hl:=jQ hok;rw[zAn]at hl;simp only[hdA]at hf;refine fO Tryz.func37 ?_;repeat' first|(refine gS ?_;simp only[go_sem])|refine gA ?_|(refine gD ?_ ?_<;>intro h<;>try exact aA h)|fail
 refine aI (ι:=Nat) (fun i=>[(0,.sl b (l.map hdA)),(1,.func fn fs cs),(7,.int .i64 l.length),(8,.int .i64 i)]) (fun _=>H) (fun i=>i≤l.length∧∀k (hk:k<i) (hk2:k<l.length),p l[k]=false) (fun i=>l.length-i) 0 ⟨zAo _,fun k hk=>by omega⟩ ?_ rfl ?_
 ·simp[go_sem]
 ·rintro i ⟨hi,hno⟩;by_cases hlt:i<l.length
  ·have hp:=aN hdA hlt;repeat' first|(refine gS ?_;simp only[go_sem,hp,hdA])|refine gA ?_|(refine gD ?_ ?_<;>intro h<;>try exact aA h)|fail
   refine kU (hf _) ?_;simp only[go_sem];repeat' first|(refine gS ?_;simp only[go_sem])|refine gA ?_|(refine gD ?_ ?_<;>intro h<;>try exact aA h)|fail
   ·exact cL (.of (by rw[eV p l i hlt (fun k hk=>hno k hk (by omega)) h]))
   ·refine⟨i+1,⟨hlt,fun k hk hk2=>?_⟩,by omega,by rw[wI];rfl⟩
    by_cases e:k=i
    ·subst e;exact h
    ·exact hno k (by omega) hk2
  ·have hi':i=l.length:=by omega
   repeat' first|(refine gS ?_;simp only[go_sem])|refine gA ?_|(refine gD ?_ ?_<;>intro h<;>try exact aA h)|fail
   subst hi';exact cL (.of (by rw[eW p l fun k hk=>hno k hk hk]))
theorem aF3(b:Bool)(l:List Wai)(fn:Fn)(fs cs:List AV)(p:Wai→Bool)(H:AHeap)(hf:∀c,FnV Tryz.prog (.func fn fs cs) [wtA c] H (.bool (p c))):
  bH Tryz.prog 72 [.sl b (l.map wtA),.func fn fs cs] H (.int .i64 (cQ p l)):=by
 refine fP fun hok _=>?_
 have hl:=jQ hok;rw[zAn]at hl;simp only[wtA]at hf;refine fO Tryz.func72 ?_;repeat' first|(refine gS ?_;simp only[go_sem])|refine gA ?_|(refine gD ?_ ?_<;>intro h<;>try exact aA h)|fail
 refine aI (ι:=Nat) (fun i=>[(0,.sl b (l.map wtA)),(1,.func fn fs cs),(7,.int .i64 l.length),(8,.int .i64 i)]) (fun _=>H) (fun i=>i≤l.length∧∀k (hk:k<i) (hk2:k<l.length),p l[k]=false) (fun i=>l.length-i) 0 ⟨zAo _,fun k hk=>by omega⟩ ?_ rfl ?_
 ·simp[go_sem]
 ·rintro i ⟨hi,hno⟩;by_cases hlt:i<l.length
  ·have hp:=aN wtA hlt;repeat' first|(refine gS ?_;simp only[go_sem,hp,wtA])|refine gA ?_|(refine gD ?_ ?_<;>intro h<;>try exact aA h)|fail
   refine kU (hf _) ?_;simp only[go_sem];repeat' first|(refine gS ?_;simp only[go_sem])|refine gA ?_|(refine gD ?_ ?_<;>intro h<;>try exact aA h)|fail
   ·exact cL (.of (by rw[eV p l i hlt (fun k hk=>hno k hk (by omega)) h]))
   ·refine⟨i+1,⟨hlt,fun k hk hk2=>?_⟩,by omega,by rw[wI];rfl⟩
    by_cases e:k=i
    ·subst e;exact h
    ·exact hno k (by omega) hk2
  ·have hi':i=l.length:=by omega
   repeat' first|(refine gS ?_;simp only[go_sem])|refine gA ?_|(refine gD ?_ ?_<;>intro h<;>try exact aA h)|fail
   subst hi';exact cL (.of (by rw[eW p l fun k hk=>hno k hk hk]))
theorem aSD(b:Bool)(l:List Wai)(fn:Fn)(fs cs:List AV)(p:Wai→Bool)(H:AHeap)(hf:∀c,FnV Tryz.prog (.func fn fs cs) [wtA c] H (.bool (p c))):
  bH Tryz.prog 47 [.sl b (l.map wtA),.func fn fs cs] H (.bool (l.any p)):=by
 refine fO Tryz.func47 ?_;have hx:=aF3 b l fn fs cs p H hf;repeat' first|((first|refine aZ (hx) (cO) ?_|refine bA (hx) (cO) ?_|refine bB (fun _=>hx) (cO) ?_|refine gS ?_);simp only[go_sem])|refine gA ?_|(refine gD ?_ ?_<;>intro h<;>try exact aA h)|fail
 exact cL (.of (by rw[jW]))
theorem aF4(b:Bool)(l:List Thr)(fn:Fn)(fs cs:List AV)(p:Thr→Bool)(H:AHeap)(hf:∀c,FnV Tryz.prog (.func fn fs cs) [thr c] H (.bool (p c))):
  bH Tryz.prog 49 [.sl b (l.map thr),.func fn fs cs] H (.int .i64 (cQ p l)):=by
 refine fP fun hok _=>?_
 have hl:=jQ hok;rw[zAn]at hl;simp only[thr]at hf;refine fO Tryz.func49 ?_;repeat' first|(refine gS ?_;simp only[go_sem])|refine gA ?_|(refine gD ?_ ?_<;>intro h<;>try exact aA h)|fail
 refine aI (ι:=Nat) (fun i=>[(0,.sl b (l.map thr)),(1,.func fn fs cs),(7,.int .i64 l.length),(8,.int .i64 i)]) (fun _=>H) (fun i=>i≤l.length∧∀k (hk:k<i) (hk2:k<l.length),p l[k]=false) (fun i=>l.length-i) 0 ⟨zAo _,fun k hk=>by omega⟩ ?_ rfl ?_
 ·simp[go_sem]
 ·rintro i ⟨hi,hno⟩;by_cases hlt:i<l.length
  ·have hp:=aN thr hlt;repeat' first|(refine gS ?_;simp only[go_sem,hp,thr])|refine gA ?_|(refine gD ?_ ?_<;>intro h<;>try exact aA h)|fail
   refine kU (hf _) ?_;simp only[go_sem];repeat' first|(refine gS ?_;simp only[go_sem])|refine gA ?_|(refine gD ?_ ?_<;>intro h<;>try exact aA h)|fail
   ·exact cL (.of (by rw[eV p l i hlt (fun k hk=>hno k hk (by omega)) h]))
   ·refine⟨i+1,⟨hlt,fun k hk hk2=>?_⟩,by omega,by rw[wI];rfl⟩
    by_cases e:k=i
    ·subst e;exact h
    ·exact hno k (by omega) hk2
  ·have hi':i=l.length:=by omega
   repeat' first|(refine gS ?_;simp only[go_sem])|refine gA ?_|(refine gD ?_ ?_<;>intro h<;>try exact aA h)|fail
   subst hi';exact cL (.of (by rw[eW p l fun k hk=>hno k hk hk]))
theorem aSE(b:Bool)(l:List Thr)(fn:Fn)(fs cs:List AV)(p:Thr→Bool)(H:AHeap)(hf:∀c,FnV Tryz.prog (.func fn fs cs) [thr c] H (.bool (p c))):
  bH Tryz.prog 31 [.sl b (l.map thr),.func fn fs cs] H (.bool (l.any p)):=by
 refine fO Tryz.func31 ?_;have hx:=aF4 b l fn fs cs p H hf;repeat' first|((first|refine aZ (hx) (cO) ?_|refine bA (hx) (cO) ?_|refine bB (fun _=>hx) (cO) ?_|refine gS ?_);simp only[go_sem])|refine gA ?_|(refine gD ?_ ?_<;>intro h<;>try exact aA h)|fail
 exact cL (.of (by rw[jW]))
def aIO(o:Option Int):AV:=.tup [.int .i64 (o.getD 0),.bool o.isSome]
theorem rY{α:Type}(p:α→Bool)(l:List α):(cQ p l= -1∧l.find? p=none)∨∃(i:Nat) (h:i<l.length),cQ p l=(i:Int)∧l.find? p=some l[i]:=by
 induction l with
 |nil=>exact .inl ⟨rfl,rfl⟩
 |cons x l ih=>
  unfold cQ;rw[List.find?_cons];cases hp:p x with
  |true=>exact .inr ⟨0,by simp,rfl,rfl⟩
  |false=>
   rw[zAe (by simp)]
   rcases ih with⟨h1,h2⟩|⟨i,hi,h1,h2⟩
   ·rw[zAl h1];exact .inl ⟨rfl,h2⟩
   ·rw[zAe (by omega)];exact .inr ⟨i+1,by simpa using hi,by omega,by simpa using h2⟩
theorem aIP{i:Nat}{n:Int}{G:AHeap}(hi:hget G i=.cells 0 [.int .i64 n])(s:Hld):bH Tryz.prog 38 [hdA s,.ref i 0 0] G (.bool (decide (s.thr=n))):=by
 refine fO Tryz.func38 ?_;have hi1:=aG hi trivial;repeat' first|(refine gS ?_;simp only[go_sem,hdA,hi,hi1])|refine gA ?_|(refine gD ?_ ?_<;>intro h<;>try exact aA h)|fail
 exact dY (.refl _)
theorem aF5{i:Nat}{n:Int}{G:AHeap}(hi:hget G i=.cells 0 [.int .i64 n])(s:Hld):bH Tryz.prog 39 [hdA s,.ref i 0 0] G (.bool (decide (s.lock=n))):=by
 refine fO Tryz.func39 ?_;have hi1:=aG hi trivial;repeat' first|(refine gS ?_;simp only[go_sem,hdA,hi,hi1])|refine gA ?_|(refine gD ?_ ?_<;>intro h<;>try exact aA h)|fail
 exact dY (.refl _)
theorem aIQ{i:Nat}{n:Int}{G:AHeap}(hi:hget G i=.cells 0 [.int .i64 n])(s:Wai):bH Tryz.prog 48 [wtA s,.ref i 0 0] G (.bool (decide (s.thr=n))):=by
 refine fO Tryz.func48 ?_;have hi1:=aG hi trivial;repeat' first|(refine gS ?_;simp only[go_sem,wtA,hi,hi1])|refine gA ?_|(refine gD ?_ ?_<;>intro h<;>try exact aA h)|fail
 exact dY (.refl _)
theorem aLC(t:Thr)(G:AHeap):bH Tryz.prog 32 [thr t] G (.bool (!t.ended)):=by
 refine fO Tryz.func32 ?_;repeat' first|(refine gS ?_;simp only[go_sem,thr])|refine gA ?_|(refine gD ?_ ?_<;>intro h<;>try exact aA h)|fail
 exact dY (.refl _)
theorem aEx(f1 f2:Bool)(t:Tbl)(n:Int)(H:AHeap):bH Tryz.prog 19 [mP f1 f2 t,.int .i64 n] H (aIO (nM t.waits n)):=by
 refine fO Tryz.func19 ?_;have hx:∀G,hget G (H.length+1)=.cells 0 [.int .i64 n]→bH Tryz.prog 37 [.sl f2 (t.waits.map hdA),.func (.func 38) [] [.ref (H.length+1) 0 0]] G (.int .i64 (cQ (fun s=>decide (s.thr=n)) t.waits)):=
  fun G h=>aBr f2 t.waits (.func 38) [] [.ref (H.length+1) 0 0] (fun s=>decide (s.thr=n)) G (fun s=>.mk (first:=[]) (fun L=>aIP (aD h trivial L) s) (cO))
 unfold nM;rcases rY (fun s:Hld=>decide (s.thr=n)) t.waits with⟨h1,h2⟩|⟨i,hi,h1,h2⟩
 ·rw[h1]at hx;rw[h2];repeat' first|((first|refine aZ (hx _ (by simp only[go_sem,mP,Int.reduceLT])) (cO) ?_|refine bA (hx _ (by simp only[go_sem,mP,Int.reduceLT])) (cO) ?_|refine bB (fun _=>hx _ (by simp only[go_sem,mP,Int.reduceLT])) (cO) ?_|refine gS ?_);simp only[go_sem,mP,Int.reduceLT])|refine gA ?_|(refine gD ?_ ?_<;>intro h<;>try exact aA h)|fail
  exact dY (.refl _)
 ·rw[h1]at hx;rw[h2];have hlt:decide ((i:Int)<0)=false:=dF;have hp:=aN hdA hi;simp only[hdA]at hp;repeat' first|((first|refine aZ (hx _ (by simp only[go_sem,mP,hlt,hp])) (cO) ?_|refine bA (hx _ (by simp only[go_sem,mP,hlt,hp])) (cO) ?_|refine bB (fun _=>hx _ (by simp only[go_sem,mP,hlt,hp])) (cO) ?_|refine gS ?_);simp only[go_sem,mP,hlt,hp])|refine gA ?_|(refine gD ?_ ?_<;>intro h<;>try exact aA h)|fail
  exact dY (.refl _)
theorem aCA(f1 f2:Bool)(t:Tbl)(n:Int)(H:AHeap):bH Tryz.prog 20 [mP f1 f2 t,.int .i64 n] H (aIO (mQ t.held n)):=by
 refine fO Tryz.func20 ?_;have hx:∀G,hget G (H.length+1)=.cells 0 [.int .i64 n]→bH Tryz.prog 37 [.sl f1 (t.held.map hdA),.func (.func 39) [] [.ref (H.length+1) 0 0]] G (.int .i64 (cQ (fun s=>decide (s.lock=n)) t.held)):=
  fun G h=>aBr f1 t.held (.func 39) [] [.ref (H.length+1) 0 0] (fun s=>decide (s.lock=n)) G (fun s=>.mk (first:=[]) (fun L=>aF5 (aD h trivial L) s) (cO))
 unfold mQ;rcases rY (fun s:Hld=>decide (s.lock=n)) t.held with⟨h1,h2⟩|⟨i,hi,h1,h2⟩
 ·rw[h1]at hx;rw[h2];repeat' first|((first|refine aZ (hx _ (by simp only[go_sem,mP,Int.reduceLT])) (cO) ?_|refine bA (hx _ (by simp only[go_sem,mP,Int.reduceLT])) (cO) ?_|refine bB (fun _=>hx _ (by simp only[go_sem,mP,Int.reduceLT])) (cO) ?_|refine gS ?_);simp only[go_sem,mP,Int.reduceLT])|refine gA ?_|(refine gD ?_ ?_<;>intro h<;>try exact aA h)|fail
  exact dY (.refl _)
 ·rw[h1]at hx;rw[h2];have hlt:decide ((i:Int)<0)=false:=dF;have hp:=aN hdA hi;simp only[hdA]at hp;repeat' first|((first|refine aZ (hx _ (by simp only[go_sem,mP,hlt,hp])) (cO) ?_|refine bA (hx _ (by simp only[go_sem,mP,hlt,hp])) (cO) ?_|refine bB (fun _=>hx _ (by simp only[go_sem,mP,hlt,hp])) (cO) ?_|refine gS ?_);simp only[go_sem,mP,hlt,hp])|refine gA ?_|(refine gD ?_ ?_<;>intro h<;>try exact aA h)|fail
  exact dY (.refl _)
theorem aEy(f:Bool)(g:Grp)(n:Int)(H:AHeap):bH Tryz.prog 29 [gpA f g,.int .i64 n] H (.bool (oT g n)):=by
 refine fO Tryz.func29 ?_;have hx:∀G,hget G (H.length+1)=.cells 0 [.int .i64 n]→bH Tryz.prog 47 [.sl f (g.waits.map wtA),.func (.func 48) [] [.ref (H.length+1) 0 0]] G (.bool (oT g n)):=
  fun G h=>aSD f g.waits (.func 48) [] [.ref (H.length+1) 0 0] (fun s=>decide (s.thr=n)) G (fun s=>.mk (first:=[]) (fun L=>aIQ (aD h trivial L) s) (cO))
 repeat' first|((first|refine aZ (hx _ (by simp only[go_sem,gpA])) (cO) ?_|refine bA (hx _ (by simp only[go_sem,gpA])) (cO) ?_|refine bB (fun _=>hx _ (by simp only[go_sem,gpA])) (cO) ?_|refine gS ?_);simp only[go_sem,gpA])|refine gA ?_|(refine gD ?_ ?_<;>intro h<;>try exact aA h)|fail
 exact dY (.refl _)
def aLD(g:Grp):Int:=g.waits.foldl (fun u w=>max u w.upto) ((g.waits.head?.map (·.upto)).getD 0)
def aLE(g:Grp):AV:=.tup [.int .i64 ((zK g).getD 0),.int .i64 (aLD g),.bool (zK g).isSome]
theorem aOT(f:Bool)(g:Grp)(H:AHeap):bH Tryz.prog 30 [gpA f g] H (aLE g):=by
 refine aAj fun hok=>?_
 have hl:g.waits.length≤9223372036854775807:=by
  have:=jQ (aRN hok (.sl f (g.waits.map wtA)) (by simp))
  rwa[zAn]at this
 refine fO Tryz.func30 ?_;unfold aLE zK aLD;by_cases hn:g.waits=[]
 ·rw[hn];repeat' first|(refine gS ?_;simp only[go_sem,gpA,hn])|refine gA ?_|(refine gD ?_ ?_<;>intro h<;>try exact aA h)|fail
  exact dY (.refl _)
 ·have hl0:0<g.waits.length:=zBl.2 hn;have d0:decide ((g.waits.length:Int)=0)=false:=dF;have hp0:=aN wtA hl0;have hh:g.waits.head?=some g.waits[0]:=List.head?_eq_getElem? .. ▸zAb hl0;rw[hh];obtain⟨w0,hw0⟩:∃w,w=g.waits[0]:=⟨_,rfl⟩;rw[←hw0]at hp0 ⊢;simp only[wtA]at hp0;repeat' first|(refine gS ?_;simp only[go_sem,gpA,d0,hp0,hl0])|refine gA ?_|(refine gD ?_ ?_<;>intro h<;>try exact aA h)|fail
  refine aI (ι:=Nat×AHeap) (fun s=>[(1,.ref H.length 0 0),(5,.int .i64 ((g.waits.take s.1).foldl (fun u w=>max u w.upto) w0.upto)),(18,.sl f (g.waits.map wtA)),(19,.int .i64 g.waits.length),(20,.int .i64 s.1)])
   (fun s=>H++(.cells 0 [.int .i64 g.kept,.sl f (g.waits.map wtA)]::s.2)) (fun s=>s.1≤g.waits.length) (fun s=>g.waits.length-s.1) (0,[]) (zAo _) ?_ rfl ?_
  ·simp[go_sem]
  rintro⟨i,M⟩ hi;simp only at hi ⊢;obtain⟨G,hG⟩:∃G,H++(.cells 0 [.int .i64 g.kept,.sl f (g.waits.map wtA)]::M)=G:=⟨_,rfl⟩;rw[hG];have g0:hget G H.length=.cells 0 [.int .i64 g.kept,.sl f (g.waits.map wtA)]:=by rw[←hG];simp only[go_sem]
  have g1:=aG g0 trivial;by_cases hlt:i<g.waits.length
  ·have hp:=aN wtA hlt;simp only[wtA]at hp;have hli:decide ((i:Int)<(g.waits.length:Int))=true:=dT;repeat' first|(refine gS ?_;simp only[go_sem,hp,hli])|refine gA ?_|(refine gD ?_ ?_<;>intro h<;>try exact aA h)|fail
   exact⟨(i+1,M++[.cells 0 [.int .i64 g.waits[i].thr,.int .i64 g.waits[i].upto]]),hlt,by simp only;omega,⟨by rw[zAk hlt,zBF];rfl,zAx _ (by rw[wI];rfl)⟩,by rw[←hG];simp⟩
  ·have hie:i=g.waits.length:=by omega
   subst hie;have hli:decide ((g.waits.length:Int)<(g.waits.length:Int))=false:=by simp
   rw[zAD];repeat' first|(refine gS ?_;simp only[go_sem,hli,g0,g1,hp0,hl0])|refine gA ?_|(refine gD ?_ ?_<;>intro h<;>try exact aA h)|fail
   exact oF hG (by simp only[go_sem]) (.refl _)
theorem aAw(f1 f2 f3 f4 f5 f6 f7 f8 f9:Bool)(x:Cor)(H:AHeap):bH Tryz.prog 15 [iN f1 f2 f3 f4 f5 f6 f7 f8 f9 x] H (.bool (doneC x)):=by
 refine fO Tryz.func15 ?_;have hx:∀G,bH Tryz.prog 31 [.sl f8 (x.ths.map thr),.func (.func 32) [] []] G (.bool (x.ths.any fun t=> !t.ended)):=
  fun G=>aSE f8 x.ths (.func 32) [] [] (fun t=> !t.ended) G (fun s=>.mk (first:=[]) (fun L=>aLC s _) (cO))
 repeat' first|(refine gS ?_;simp only[go_sem,iN,kE])|refine gA ?_|(refine gD ?_ ?_<;>intro h<;>try exact aA h)|fail
 exact dY (.of (by unfold doneC;rw[List.not_any_eq_all_not];simp))
end Go.Proofs.YtennnelammaapaaGreatDoor
