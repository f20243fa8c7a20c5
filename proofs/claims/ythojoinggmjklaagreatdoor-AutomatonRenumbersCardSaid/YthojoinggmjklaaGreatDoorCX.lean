import Derived.Test.YthojoinggmjklaaGreatDoorCS2
set_option linter.unusedVariables false
set_option linter.unusedSimpArgs false
noncomputable section
namespace Fi.S
open Go Fi
set_option maxHeartbeats 8000000
set_option maxRecDepth 10000
section
variable {α:Type} {e:α->W}
end
end Fi.S
namespace Fi.S
open Go Fi
set_option maxHeartbeats 8000000
set_option maxRecDepth 10000
section
variable {α:Type} {e:α->W}
def tJ (n:Int)(ws:List W):Bool:=decide ((ws.length:Int)<=n)&&ws.all W.bI
def llL:aD:=f1061.body.r.r.l.r.bl.lp
def Xd (es:List D)(j:Nat)(t:FV):St:=(st0 [.d (.s 8 es),.u,.u,.d (.v (.int .i64 j)),.u,t,.u] [])
theorem CZ (ws:List W)(n:Int)(hn0:n<=1000000):Ca E1 1061 [.d (.s 8 (ws.map W.d)),.d (.v (.int .i64 n))] (.d (.v (.bool (tJ n ws))),none):=by
 have n1:(ws.map W.d).length=ws.length:=by simp
 unfold tJ
 by_cases hlen:(ws.length:Int)<=n
 ·have hgt:¬ n<(ws.length:Int):=by omega
  have hn:ws.length<=1000000:=by omega
  rw[decide_eq_true hlen,Bool.true_and];have hloop:=Ex.kL (E:=E1) (b:=llL) ws W.bI (fun j=>Xd (ws.map W.d) j .u) (.exit 0,Xd (ws.map W.d) ws.length (.d (.v (.bool false))))
   (.ret,(st0 [.u,.u,.d (.v (.bool false)),.u,.u,.u,.u] [])) (by simp) (by simp)
   (fun j x hx=>by
    have hj:j<ws.length:=(aT hx)
    obtain⟨N,t⟩:=(Ca.iP (zO x)).get;have hj0:(0:Int)<=(j:Int):=by omega
    have aR:ak .i64 ((j:Int)+1)=(j:Int)+1:=wrap_i64 (by omega);have hk1:((j+1:Nat):Int)=(j:Int)+1:=by omega
    have e1:(ws.map W.d)[j]?=some x.d:=by simp[hx]
    obtain⟨s,l1,l2,c,b,u,q,ps,ex⟩:=x.aW;simp only[ex]at t e1;unfold wD at*;generalize ws.map W.d=es at*;have i0:=idx e1;have eP:j<es.length:=(aT e1)
    have hjl:(j:Int)<(es.length:Int):=by omega
    generalize x.bI=r at*;refine Ex.of (n:=N+100) ?_;unfold Xd;cases r
    ·rw[if_neg (by simp)];simp -implicitDefEqProofs[llL,f1061,t,hj0,eP,hjl,e1,i0]
    ·rw[if_pos rfl,hk1];simp -implicitDefEqProofs[llL,f1061,t,hj0,eP,hjl,e1,i0,aR])
   (by
    refine Ex.of (n:=60) ?_;unfold Xd;rw[<-n1];generalize ws.map W.d=es at*;simp -implicitDefEqProofs[llL,f1061])
  have sA:Ex E1 f1061.body.l (st0 [.d (.s 8 (ws.map W.d)),.d (.v (.int .i64 n)),.u,.u,.u,.u,.u] []) (.norm,(st0 [.d (.s 8 (ws.map W.d)),.d (.v (.int .i64 n)),.u,.u,.u,.u,.u] [])):=by
   refine Ex.of (n:=60) ?_;simp -implicitDefEqProofs[f1061]
  have sB:Ex E1 f1061.body.r.l (st0 [.d (.s 8 (ws.map W.d)),.d (.v (.int .i64 n)),.u,.u,.u,.u,.u] []) (.norm,(st0 [.d (.s 8 (ws.map W.d)),.u,.u,.u,.d (.v (.bool false)),.u,.u] [])):=by
   refine Ex.of (n:=60) ?_;rw[<-n1]at hgt;clear hloop;generalize ws.map W.d=es at*;simp -implicitDefEqProofs[f1061,hgt]
  have sC:Ex E1 f1061.body.r.r.l.l (st0 [.d (.s 8 (ws.map W.d)),.u,.u,.u,.d (.v (.bool false)),.u,.u] []) (.norm,Xd (ws.map W.d) 0 .u):=by
   refine Ex.of (n:=60) ?_;unfold Xd;simp -implicitDefEqProofs[f1061]
  cases hr:ws.all W.bI with
  | true =>
   rw[hr,if_pos rfl]at hloop;have sD:Ex E1 f1061.body.r.r.r (Xd (ws.map W.d) ws.length (.d (.v (.bool false)))) (.ret,(st0 [.u,.u,.d (.v (.bool true)),.u,.u,.u,.u] [])):=by
    refine Ex.of (n:=60) ?_;unfold Xd;simp -implicitDefEqProofs[f1061]
   refine Ca.body (o:=.ret) rfl (k1061:E1.fn _=_) rfl (sA.seq (sB.seq (Ex.seq (sC.seq (Ex.block hloop)) sD))) (by simp) ?_;simp[show f1061.res=[.var 2] from rfl,show f1061.ref=false from rfl]
  | false =>
   rw[hr,if_neg (by simp)]at hloop;refine Ca.body (o:=.ret) rfl (k1061:E1.fn _=_) rfl (sA.seq (sB.seq (Ex.bD (sC.seq (Ex.bf hloop))))) (by simp) ?_;simp[show f1061.res=[.var 2] from rfl,show f1061.ref=false from rfl]
 ·have hgt:n<(ws.length:Int):=by omega
  rw[decide_eq_false hlen,Bool.false_and];refine Ca.bO (n:=100) ?_;rw[aA rfl (k1061:E1.fn _=_) rfl];rw[<-n1]at hgt;generalize ws.map W.d=es at*;simp -implicitDefEqProofs[f1061,hgt]
def wR (ps:List Int)(aL fin:List W)(n:Nat):Bool:=decide ((ps.length:Int)<=6)&&(tJ 6 aL&&(tJ 6 fin&&decide ((n:Int)<=16)))
def uY (ps:List Int)(aL fin:List W)(e:α->W)(ah:List (Ar α)):Bool:=wR ps aL fin ah.length&&ah.all fun a=>(e a.x).bI
def laL:aD:=f1023.body.r.r.l.r.bl.lp
def Xe (b1:ae)(j:Nat)(t:FV):St:=(st0 [.u,.r (.loc 0) 0,.u,.d (.v (.int .i64 j)),.u,t,.u] [b1])
theorem GN (kk:Int)(ps:List Int)(sy st:Int)(aL fin:List W)(ah:List (Ar α)) :
  Ca E1 1023 [.d (kX kk ps sy st aL fin e ah)] (.d (.v (.bool (uY ps aL fin e ah))),none):=by
 obtain⟨K,hK,t1,t2,t3⟩:=((Ca.iP (Ca.bO (BD 0 kk ps))).j ((CZ aL 6 (by omega)).j ((CZ fin 6 (by omega)).any))).at 0;have n3:(ah.map (Ar.d e)).length=ah.length:=by simp
 have sA:Ex E1 f1023.body.l (st0 [.d (kX kk ps sy st aL fin e ah),.u,.u,.u,.u,.u,.u] [])
   (.norm,(st0 [.u,.r (.loc 0) 0,.u,.u,.u,.u,.u] [aM kk ps sy st (aL.map W.d) (fin.map W.d) (ah.map (Ar.d e))])):=by
  refine Ex.of (n:=60) ?_;unfold kX q9 aM;simp -implicitDefEqProofs[f1023]
 have sB:Ex E1 f1023.body.r.l (st0 [.u,.r (.loc 0) 0,.u,.u,.u,.u,.u] [aM kk ps sy st (aL.map W.d) (fin.map W.d) (ah.map (Ar.d e))])
   (if wR ps aL fin ah.length
    then(.norm,(st0 [.u,.r (.loc 0) 0,.u,.u,.d (.v (.bool false)),.u,.u] [aM kk ps sy st (aL.map W.d) (fin.map W.d) (ah.map (Ar.d e))]))
    else(.ret,(st0 [.u,.u,.d (.v (.bool false)),.u,.u,.u,.u] [aM kk ps sy st (aL.map W.d) (fin.map W.d) (ah.map (Ar.d e))]))):=by
  refine Ex.of (n:=K+200) ?_;unfold wR;clear sA;generalize decide ((ps.length:Int)<=6)=b1 at*;generalize tJ 6 aL=b2,tJ 6 fin=b3,ah.length=m3 at*;unfold aM bG at*;generalize LK .i64 ps=l9,aL.map W.d=es1,fin.map W.d=es2,ah.map (Ar.d e)=Vy at*;cases b1
  ·simp -implicitDefEqProofs[f1023,t1]
  cases b2
  ·simp -implicitDefEqProofs[f1023,t1,t2]
  cases b3
  ·simp -implicitDefEqProofs[f1023,t1,t2,t3]
  by_cases c3:(m3:Int)<=16
  ·have c3':¬ 16<(m3:Int):=by omega
   rw[decide_eq_true c3];clear c3;simp -implicitDefEqProofs[f1023,t1,t2,t3,c3',n3]
  ·have c3':16<(m3:Int):=by omega
   rw[decide_eq_false c3];clear c3;simp -implicitDefEqProofs[f1023,t1,t2,t3,c3',n3]
 unfold uY;cases hH:wR ps aL fin ah.length with
 | false =>
  rw[hH,if_neg (by simp)]at sB;rw[Bool.false_and];refine Ca.body (o:=.ret) rfl (k1023:E1.fn _=_) rfl (sA.seq (Ex.bD sB)) (by simp) ?_;simp[show f1023.res=[.var 2] from rfl,show f1023.ref=false from rfl]
 | true =>
  rw[hH,if_pos rfl]at sB;rw[Bool.true_and];have h3:ah.length<=1000000:=by
   unfold wR at hH;simp only[Bool.and_eq_true,decide_eq_true_eq]at hH;omega
  have hloop:=Ex.kL (E:=E1) (b:=laL) ah (fun a=>(e a.x).bI) (fun j=>Xe (aM kk ps sy st (aL.map W.d) (fin.map W.d) (ah.map (Ar.d e))) j .u) (.exit 0,Xe (aM kk ps sy st (aL.map W.d) (fin.map W.d) (ah.map (Ar.d e))) ah.length (.d (.v (.bool false))))
   (.ret,(st0 [.u,.u,.d (.v (.bool false)),.u,.u,.u,.u] [aM kk ps sy st (aL.map W.d) (fin.map W.d) (ah.map (Ar.d e))])) (by simp) (by simp)
   (fun j x hx=>by
    have hj:j<ah.length:=(aT hx)
    obtain⟨N,t⟩:=(Ca.iP (zO (e x.x))).get;have hj0:(0:Int)<=(j:Int):=by omega
    have aR:ak .i64 ((j:Int)+1)=(j:Int)+1:=wrap_i64 (by omega);have hk1:((j+1:Nat):Int)=(j:Int)+1:=by omega
    have e1:(ah.map (Ar.d e))[j]?=some (x.d e):=by simp[hx]
    obtain⟨s,l1,l2,c,b,u,q,ps',ex,ed⟩:=x.dG e;rw[ed]at e1;simp only[ex]at t;clear sA sB t1 t2 t3;unfold aM mH wD at*;generalize ah.map (Ar.d e)=es,aL.map W.d=es1,fin.map W.d=es2,LK .i64 ps=l9 at*;have i0:=idx e1;have eP:j<es.length:=(aT e1)
    have hjl:(j:Int)<(es.length:Int):=by omega
    generalize (e x.x).bI=r at*;refine Ex.of (n:=N+100) ?_;unfold Xe;cases r
    ·rw[if_neg (by simp)];simp -implicitDefEqProofs[laL,f1023,t,hj0,eP,hjl,e1,i0]
    ·rw[if_pos rfl,hk1];simp -implicitDefEqProofs[laL,f1023,t,hj0,eP,hjl,e1,i0,aR])
   (by
    refine Ex.of (n:=60) ?_;clear sA sB t1 t2 t3;unfold Xe aM;rw[<-n3];generalize ah.map (Ar.d e)=es,aL.map W.d=es1,fin.map W.d=es2,LK .i64 ps=l9 at*;simp -implicitDefEqProofs[laL,f1023])
  generalize aM kk ps sy st (aL.map W.d) (fin.map W.d) (ah.map (Ar.d e))=bx at*;have sC:Ex E1 f1023.body.r.r.l.l (st0 [.u,.r (.loc 0) 0,.u,.u,.d (.v (.bool false)),.u,.u] [bx]) (.norm,Xe bx 0 .u):=by
   refine Ex.of (n:=60) ?_;unfold Xe;simp -implicitDefEqProofs[f1023]
  cases hr:ah.all fun a=>(e a.x).bI with
  | true =>
   rw[hr,if_pos rfl]at hloop;have sD:Ex E1 f1023.body.r.r.r (Xe bx ah.length (.d (.v (.bool false)))) (.ret,(st0 [.u,.u,.d (.v (.bool true)),.u,.u,.u,.u] [bx])):=by
    refine Ex.of (n:=60) ?_;unfold Xe;simp -implicitDefEqProofs[f1023]
   refine Ca.body (o:=.ret) rfl (k1023:E1.fn _=_) rfl (sA.seq (sB.seq (Ex.seq (sC.seq (Ex.block hloop)) sD))) (by simp) ?_;simp[show f1023.res=[.var 2] from rfl,show f1023.ref=false from rfl]
  | false =>
   rw[hr,if_neg (by simp)]at hloop;refine Ca.body (o:=.ret) rfl (k1023:E1.fn _=_) rfl (sA.seq (sB.seq (Ex.bD (sC.seq (Ex.bf hloop))))) (by simp) ?_;simp[show f1023.res=[.var 2] from rfl,show f1023.ref=false from rfl]
end
end Fi.S
noncomputable section
namespace Fi.S
open Go Fi
set_option maxHeartbeats 8000000
set_option maxRecDepth 10000
section ah
variable {α:Type} {e:α->W} {kk:Int} {ps:List Int} {pl:α->α->α} {z:W} {eQ:α->Bool} {G:Nat->α->Prop} {m:Nat}
theorem GQ (hW:KN kk ps e pl z eQ G m):∀ (l p:List (Ar α)) (n:Nat),(∀ y ∈ p,G n y.x)->(∀ x ∈ l,G 1 x.x)->n+l.length<=m->1<=n->∀ y ∈ l.foldl (fun p x=>bX pl x p) p,G (n+l.length) y.x
 | [],p,n,hp,_,_,_=>fun y hy=>hp y hy
 | x::l,p,n,hp,hl,hm,hn=>by
  intro y hy;simp only[List.length_cons]at hm ⊢;have hx:=hl x (by simp);have:=GQ hW l (bX pl x p) (n+1) (tu pl x (fun y=>G n y.x) (fun y=>G (n+1) y.x) (hW.up hx n) (fun y hy=>hW.mono _ _ hy) (fun y hy=>hW.pg n y.x x.x (by omega) hy hx) p hp) (fun x hx=>hl x (by simp[hx])) (by omega) (by omega) y hy;rw[show n+(l.length+1)=n+1+l.length by omega];exact this
theorem JC (hW:KN kk ps e pl z eQ G m)(l:List (Ar α))(hl:∀ x ∈ l,G 1 x.x)(hm:1+l.length<=m):∀ y ∈ qj pl eQ l,G (1+l.length) y.x:=by
 intro y hy;unfold qj dU at hy;exact GQ hW l [] 1 (by simp) hl hm (by omega) y (List.mem_filter.1 hy).1
end ah
theorem Ew {kk:Int}{ps:List Int}(hv:aQ kk ps=true):∀ ws:List W,(∀ w ∈ ws,w.nJ/\w.bI=true/\bM kk ps w=true)->∃ xs:List (List Sv),ws=xs.map (h_ kk)/\∀ x ∈ xs,xK kk ps 1 x
 | [],_=>⟨[],rfl,by simp⟩
 | w::ws,h=>by
  obtain⟨xs,h1,h2⟩:=Ew hv ws (fun w hw=>h w (by simp[hw]));obtain⟨a,b,c⟩:=h w (by simp);obtain⟨x,hx,rfl⟩:=Gs hv a b c;subst h1;exact⟨x::xs,rfl,fun y hy=>by
   rcases List.mem_cons.1 hy with rfl|hy
   ·exact⟨by omega,hx⟩
   ·exact h2 y hy⟩
theorem KV {kk:Int}{ps:List Int}(hv:aQ kk ps=true):∀ aq:List (Ar W),(∀ a ∈ aq,a.x.nJ/\a.x.bI=true/\bM kk ps a.x=true)->∃ xs:List (Ar (List Sv)),aq.map (Ar.d id)=xs.map (Ar.d (h_ kk))/\aq.length=xs.length/\∀ x ∈ xs,xK kk ps 1 x.x
 | [],_=>⟨[],rfl,rfl,by simp⟩
 | a::aq,h=>by
  obtain⟨xs,h1,h2,h3⟩:=KV hv aq (fun a ha=>h a (by simp[ha]));obtain⟨h4,h5,h6⟩:=h a (by simp);obtain⟨x,hx,hxe⟩:=Gs hv h4 h5 h6;refine⟨⟨a.f,a.l,a.t,x⟩::xs,?_,by simp[h2],fun y hy => ?_⟩
  ·rw[List.map_cons,List.map_cons,h1]
   congr 1
   unfold Ar.d;rw[<-hxe];rfl
  ·rcases List.mem_cons.1 hy with rfl|hy
   ·exact⟨by omega,hx⟩
   ·exact h3 y hy
structure Au where
 kk:Int
 ps:List Int
 sy:Int
 st:Int
 aL:List W
 fin:List W
 ah:List (Ar W)
def Au.d (a:Au):D:=kX a.kk a.ps a.sy a.st a.aL a.fin id a.ah
def Au.nJ (a:Au):Prop:=(∀ w ∈ a.aL,w.nJ)/\(∀ w ∈ a.fin,w.nJ)/\∀ x ∈ a.ah,x.x.nJ
def Au.bI (a:Au):Bool:=uY a.ps a.aL a.fin id a.ah
def Au.same (a b:Au):Bool:=nT a.kk a.ps a.sy a.st a.aL a.fin a.ah b.kk b.ps b.sy b.st b.aL b.fin b.ah id
def Au.valid (a:Au):Bool:=En a.kk a.ps a.sy a.st a.aL a.fin id a.ah
structure Au.Lit (a:Au):Prop where
 ps:a.ps.length<=6
 aL:a.aL.length<=6/\∀ w ∈ a.aL,w.nJ/\w.bI=true
 fin:a.fin.length<=6/\∀ w ∈ a.fin,w.nJ/\w.bI=true
 ah:a.ah.length<=16/\∀ x ∈ a.ah,x.x.nJ/\x.x.bI=true
theorem Au.lit {a:Au}(ht:a.nJ)(hl:a.bI=true):a.Lit:=by
 unfold Au.bI uY wR tJ at hl;simp only[Bool.and_eq_true,decide_eq_true_eq,List.all_eq_true]at hl;obtain⟨⟨h1,⟨h2,h3⟩,⟨h4,h5⟩,h6⟩,h7⟩:=hl;exact⟨by omega,⟨by omega,fun w hw=>⟨ht.1 w hw,h3 w hw⟩⟩,⟨by omega,fun w hw=>⟨ht.2.1 w hw,h5 w hw⟩⟩,⟨by omega,fun x hx=>⟨ht.2.2 x hx,h7 x hx⟩⟩⟩
section au
variable {a b:Au} (ha:a.Lit) (hb:b.Lit)
include ha
theorem Au.Lit.ok:(∀ w ∈ a.aL,w.OK)/\(∀ w ∈ a.fin,w.OK)/\∀ x ∈ a.ah,(id x.x:W).OK :=
 ⟨fun w hw=>uE w (ha.aL.2 w hw).1 (ha.aL.2 w hw).2,fun w hw=>uE w (ha.fin.2 w hw).1 (ha.fin.2 w hw).2,fun x hx=>uE x.x (ha.ah.2 x hx).1 (ha.ah.2 x hx).2⟩
theorem Au.Lit.uR:Ca E1 1026 [.d a.d] (.d (.v (.bool a.valid)),none)/\Ca E1 1020 [.d a.d] (.d (.v (.bool a.valid)),none):=by
 obtain⟨o1,o2,o3⟩:=ha.ok;have h1:=ha.ps;have h2:=ha.aL.1;have h3:=ha.fin.1;have h4:=ha.ah.1;exact⟨Fi.S.uR a.kk a.ps a.sy a.st a.aL a.fin a.ah (by omega) (by omega) (by omega) (by omega) o1 o2 o3,Fi.S.Er a.kk a.ps a.sy a.st a.aL a.fin a.ah (by omega) (by omega) (by omega) (by omega) o1 o2 o3⟩
end au
end Fi.S
namespace Fi.S
open Go Fi
section
structure VR (P:Program):Prop where
 arc:kI P 47 [(3,0,1),(3,1,1),(3,2,1),(45,3,8)] 11=true
 ah:sliceB P 26 47 11=true
 auto:kI P 28 [(24,0,2),(3,2,1),(3,3,1),(25,4,1),(25,5,1),(26,6,1)] 7=true
section lift
variable {H:Type} {enc:TypeId × Value->H} {P:Program} {w:World} {base:Nat} {held:Bool} {σ:Nat->Option FuncId} {sp:Nat->Bool} {fuel:Nat} {cs:List Value} {x:DataW H × List MemPlace}
theorem KW (T:N9 P)(h:DataW.trod enc P w base sp held fuel 25 cs=some x):∃ ws:List W,(∀ v ∈ ws,v.nJ)/\Rc σ (Here w) w [.s 8 (ws.map W.d)] cs:=by
 obtain⟨ht,hc⟩:=pO T.parts;obtain⟨es,g1,r5⟩:=lq (σ:=σ) (Q:=fun d=>∃ v:W,v.nJ/\d=v.d) ht (by omega) (fun n vs y hn hy=>by
  obtain⟨v,hv,hr⟩:=xw (σ:=σ) T n hy;obtain⟨sx,ax,bx,cx,ix,ux,px,Ci⟩:=v;exact⟨_,⟨_,hv,rfl⟩,by rw[hc];rfl,by intro c hc';simp[W.d,D.cells]at hc';rcases hc' with rfl|rfl|rfl|rfl|rfl|rfl|rfl|rfl<;>rfl,hr⟩) h
 have:∀ es:List D,(∀ d ∈ es,∃ v:W,v.nJ/\d=v.d)->∃ l:List W,(∀ m ∈ l,m.nJ)/\es=l.map W.d:=by
  intro es
  induction es with
  | nil=>intro _;exact⟨[],by simp,rfl⟩
  | cons d r ih =>
   intro hd;obtain⟨n,hn,rfl⟩:=hd d (List.mem_cons_self ..);obtain⟨l,hl,rfl⟩:=ih (fun d hd'=>hd d (List.mem_cons_of_mem _ hd'));exact⟨n::l,by intro z hz;rcases List.mem_cons.1 hz with rfl|hz;exact hn;exact hl z hz,rfl⟩
 obtain⟨ps,hps,rfl⟩:=this es g1;rw[hc]at r5;exact⟨ps,hps,r5⟩
theorem RL (T:N9 P)(TA:VR P)(h:DataW.trod enc P w base sp held fuel 47 cs=some x):∃ a:Ar W,a.x.nJ/\Rc σ (Here w) w (a.d id).cells cs:=by
 obtain⟨k,_,hl,hf⟩:=fO TA.arc h;obtain⟨_,h0⟩:=hf 0 3 0 1 rfl;obtain⟨_,h1⟩:=hf 1 3 1 1 rfl;obtain⟨_,h2⟩:=hf 2 3 2 1 rfl;obtain⟨_,h3⟩:=hf 3 45 3 8 rfl;obtain⟨f,_,r0⟩:=fG (σ:=σ) (ky T.int) h0;obtain⟨l,_,r1⟩:=fG (σ:=σ) (ky T.int) h1;obtain⟨t,_,r2⟩:=fG (σ:=σ) (ky T.int) h2;obtain⟨v,hv,r3⟩:=xw (σ:=σ) T _ h3;refine⟨⟨f,l,t,v⟩,hv,?_⟩;have:=((r0.append r1).append r2).append r3;rw[b_,b_,b_,jw (n:=1+1+1+8) hl]at this;obtain⟨s,l1,l2,c,b,u,p,ps,ew,ed⟩:=(⟨f,l,t,v⟩:Ar W).dG id;rw[ed];simp only[id]at ew;rw[ew]at this;exact this
theorem M_ (T:N9 P)(TA:VR P)(h:DataW.trod enc P w base sp held fuel 26 cs=some x):∃ l:List (Ar W),(∀ a ∈ l,a.x.nJ)/\Rc σ (Here w) w [.s 11 (l.map (Ar.d id))] cs:=by
 obtain⟨ht,hc⟩:=pO TA.ah;obtain⟨es,h1,h2⟩:=lq (σ:=σ) (Q:=fun d=>∃ a:Ar W,a.x.nJ/\d=a.d id) ht (by omega) (fun n vs y _ hy=>by
  obtain⟨a,ha,hr⟩:=RL (σ:=σ) T TA hy;obtain⟨s,l1,l2,c,b,u,p,ps,ew,ed⟩:=a.dG id;refine⟨_,⟨a,ha,rfl⟩,?_,?_,hr⟩
  ·rw[hc,ed];rfl
  ·rw[ed];intro c hc';simp[mH,D.cells]at hc';rcases hc' with rfl|rfl|rfl|rfl|rfl|rfl|rfl|rfl|rfl|rfl|rfl<;>rfl) h
 have:∀ es:List D,(∀ d ∈ es,∃ a:Ar W,a.x.nJ/\d=a.d id)->∃ l:List (Ar W),(∀ a ∈ l,a.x.nJ)/\es=l.map (Ar.d id):=by
  intro es
  induction es with
  | nil=>intro _;exact⟨[],by simp,rfl⟩
  | cons d r ih =>
   intro hd;obtain⟨n,hn,rfl⟩:=hd d (List.mem_cons_self ..);obtain⟨l,hl,rfl⟩:=ih (fun d hd'=>hd d (List.mem_cons_of_mem _ hd'));exact⟨n::l,by intro z hz;rcases List.mem_cons.1 hz with rfl|hz;exact hn;exact hl z hz,rfl⟩
 obtain⟨l,hl,rfl⟩:=this es h1;rw[hc]at h2;exact⟨l,hl,h2⟩
theorem Na (T:N9 P)(TA:VR P)(h:DataW.trod enc P w base sp held fuel 28 cs=some x):∃ a:Au,a.nJ/\Rc σ (Here w) w a.d.cells cs:=by
 obtain⟨k,_,hl,hf⟩:=fO TA.auto h;obtain⟨_,h0⟩:=hf 0 24 0 2 rfl;obtain⟨_,h1⟩:=hf 1 3 2 1 rfl;obtain⟨_,h2⟩:=hf 2 3 3 1 rfl;obtain⟨_,h3⟩:=hf 3 25 4 1 rfl;obtain⟨_,h4⟩:=hf 4 25 5 1 rfl;obtain⟨_,h5⟩:=hf 5 26 6 1 rfl;obtain⟨kk,ps,_,_,r0⟩:=Ma (σ:=σ) T h0;obtain⟨sy,_,r1⟩:=fG (σ:=σ) (ky T.int) h1;obtain⟨st,_,r2⟩:=fG (σ:=σ) (ky T.int) h2;obtain⟨aL,hi,r3⟩:=KW (σ:=σ) T h3;obtain⟨fin,hfi,r4⟩:=KW (σ:=σ) T h4;obtain⟨ah,ha,r5⟩:=M_ (σ:=σ) T TA h5;refine⟨⟨kk,ps,sy,st,aL,fin,ah⟩,⟨hi,hfi,ha⟩,?_⟩;have:=((((r0.append r1).append r2).append r3).append r4).append r5;rw[b_,b_,b_,b_,b_,jw (n:=2+1+1+1+1+1) hl]at this;exact this
end lift
end
end Fi.S
