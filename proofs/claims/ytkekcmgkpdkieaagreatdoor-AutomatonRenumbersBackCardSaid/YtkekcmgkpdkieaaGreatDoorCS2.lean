import Derived.Test.YtkekcmgkpdkieaaGreatDoorCT
set_option linter.unusedVariables false
set_option linter.unusedSimpArgs false
noncomputable section
namespace Fi.S
open Go Fi
set_option maxHeartbeats 8000000
set_option maxRecDepth 10000
section
variable {α:Type} {e:α->W}
def wsB (kk:Int)(ps:List Int)(ws:List W)(n:Int):Bool:=decide ((ws.length:Int)=n)&&ws.all (cZ kk ps)
def wwL:aG:=f1054.body.r.r.l.r.bl.lp
def wwS (kk:Int)(ps:List Int)(es:List D)(n:Int)(j:Nat)(t:FV):St:=(st0 [.u,.d (.s 8 es),.d (.v (.int .i64 n)),.r (.loc 0) 0,.u,.d (.v (.int .i64 j)),.u,t,.u] [aU kk ps])
theorem zT (kk:Int)(ps:List Int)(ws:List W)(n:Int)(hl:ps.length<=1000000)(hn:ws.length<=1000000)(o1:∀ w ∈ ws,w.OK) :
  Ca E1 1054 [.d (bA kk ps),.d (.s 8 (ws.map W.d)),.d (.v (.int .i64 n))] (.d (.v (.bool (wsB kk ps ws n))),none):=by
 have n1:(ws.map W.d).length=ws.length:=by simp
 unfold wsB
 by_cases hlen:(ws.length:Int)=n
 ·subst hlen;rw[decide_eq_true rfl,Qs0];have hloop:=Ex.OH (E:=E1) (b:=wwL) ws (cZ kk ps) (fun j=>wwS kk ps (ws.map W.d) ws.length j .u) (.exit 0,wwS kk ps (ws.map W.d) ws.length ws.length (.d (.v (.bool false))))
   (.ret,(st0 [.u,.u,.u,.u,.d (.v (.bool false)),.u,.u,.u,.u] [aU kk ps])) (by simp) (by simp)
   (fun j x hx=>by
    have hj:j<ws.length:=(bD hx)
    obtain⟨N,t⟩:=(Ca.fP (tZ kk ps x hl (o1 x (Qa2 hx)))).get;have hj0:(0:Int)<=(j:Int):=by omega
    have bz:ah .i64 ((j:Int)+1)=(j:Int)+1:=wrap_i64 omK;have hk1:((j+1:Nat):Int)=(j:Int)+1:=by omega
    have e1:(ws.map W.d)[j]?=some x.d:=by simp[hx]
    obtain⟨s,l1,l2,c,b,u,q,ps',ex⟩:=x.aN;simp only[ex]at t e1;have hjl:(j:Int)<(ws.length:Int):=by omega
    unfold wD bA at*;generalize ws.map W.d=es at*;have i0:=idx e1;have qQ:j<es.length:=(bD e1)
    generalize cZ kk ps x=r,(ws.length:Int)=m at*;refine Ex.of (n:=N+100) ?_;unfold wwS aU;generalize LK .i64 ps=l9 at*;cases r
    ·rw[if_neg (by simp)];simp -implicitDefEqProofs[wwL,f1054,t,hj0,qQ,hjl,e1,i0]
    ·rw[if_pos rfl,hk1];simp -implicitDefEqProofs[wwL,f1054,t,hj0,qQ,hjl,e1,i0,bz])
   (by
    refine Ex.of (n:=60) ?_;unfold wwS aU;generalize ws.map W.d=es,LK .i64 ps=l9 at*;simp -implicitDefEqProofs[wwL,f1054])
  have sA:Ex E1 f1054.body.l (st0 [.d (bA kk ps),.d (.s 8 (ws.map W.d)),.d (.v (.int .i64 ws.length)),.u,.u,.u,.u,.u,.u] []) (.norm,(st0 [.u,.d (.s 8 (ws.map W.d)),.d (.v (.int .i64 ws.length)),.r (.loc 0) 0,.u,.u,.u,.u,.u] [aU kk ps])):=by
   refine Ex.of (n:=60) ?_;unfold bA aU;simp -implicitDefEqProofs[f1054]
  have sB:Ex E1 f1054.body.r.l (st0 [.u,.d (.s 8 (ws.map W.d)),.d (.v (.int .i64 ws.length)),.r (.loc 0) 0,.u,.u,.u,.u,.u] [aU kk ps]) (.norm,(st0 [.u,.d (.s 8 (ws.map W.d)),.d (.v (.int .i64 ws.length)),.r (.loc 0) 0,.u,.u,.d (.v (.bool false)),.u,.u] [aU kk ps])):=by
   refine Ex.of (n:=60) ?_;clear hloop sA;rw[<-n1];generalize ws.map W.d=es at*;simp -implicitDefEqProofs[f1054]
  have sC:Ex E1 f1054.body.r.r.l.l (st0 [.u,.d (.s 8 (ws.map W.d)),.d (.v (.int .i64 ws.length)),.r (.loc 0) 0,.u,.u,.d (.v (.bool false)),.u,.u] [aU kk ps]) (.norm,(st0 [.u,.d (.s 8 (ws.map W.d)),.d (.v (.int .i64 ws.length)),.r (.loc 0) 0,.u,.d (.v (.int .i64 0)),.u,.u,.u] [aU kk ps])):=by
   refine Ex.of (n:=60) ?_;simp -implicitDefEqProofs[f1054]
  cases hr:ws.all (cZ kk ps) with
  | true =>
   rw[hr,if_pos rfl]at hloop;have sD:Ex E1 f1054.body.r.r.r (st0 [.u,.d (.s 8 (ws.map W.d)),.d (.v (.int .i64 ws.length)),.r (.loc 0) 0,.u,.d (.v (.int .i64 ws.length)),.u,.d (.v (.bool false)),.u] [aU kk ps]) (.ret,(st0 [.u,.u,.u,.u,.d (.v (.bool true)),.u,.u,.u,.u] [aU kk ps])):=by
    refine Ex.of (n:=60) ?_;simp -implicitDefEqProofs[f1054]
   refine Ca.body (o:=.ret) rfl (k1054:E1.fn _=_) rfl (sA.seq (sB.seq (Ex.seq (sC.seq (Ex.block hloop)) sD))) (by simp) ?_;simp[show f1054.res=[.var 4] from rfl,show f1054.ref=false from rfl]
  | false =>
   rw[hr,if_neg (by simp)]at hloop;refine Ca.body (o:=.ret) rfl (k1054:E1.fn _=_) rfl (sA.seq (sB.seq (Ex.dG (sC.seq (Ex.b_ hloop))))) (by simp) ?_;simp[show f1054.res=[.var 4] from rfl,show f1054.ref=false from rfl]
 ·have hne:((ws.length:Int) != n)=true:=by simpa using hlen
  rw[decide_eq_false hlen,Q41];refine Ca.bO (n:=100) ?_;rw[av rfl (k1054:E1.fn _=_) rfl];rw[<-n1]at hne;unfold bA;generalize ws.map W.d=es,LK .i64 ps=l9 at*;simp -implicitDefEqProofs[f1054,hne]
def yT (kk:Int)(ps:List Int)(sy st:Int)(aM fin:List W)(n:Nat):Bool :=
 aJ kk ps&&(Dc sy 1 32&&(Dc st 0 64&&(wsB kk ps aM st&&(wsB kk ps fin st&&decide ((n:Int)<=2048)))))
def VC (kk:Int)(ps:List Int)(sy st:Int)(aM fin:List W)(e:α->W)(ak:List (Ar α)):Bool:=yT kk ps sy st aM fin ak.length&&ak.all (pR kk ps sy st e)
theorem VD (kk:Int)(ps:List Int)(sy st:Int)(aM fin:List W)(ak:List (Ar α)):VC kk ps sy st aM fin e ak=MZ kk ps sy st aM fin e ak:=by
 unfold VC MZ yT OM wsB Dc;generalize ak.all (pR kk ps sy st e)=b1;generalize aM.all (cZ kk ps)=b2;generalize fin.all (cZ kk ps)=b3;generalize aJ kk ps=b4;rw[Bool.eq_iff_iff];simp only[Qb2,decide_eq_true_eq];grind
def OP:aG:=f1020.body.r.r.l.r.bl.lp
def K5 (bs:List ae)(j:Nat)(t:FV):St:=(st0 [.u,.r (.loc 0) 0,.u,.d (.v (.int .i64 j)),.u,.u,t,.u] bs)
def fE (e:α->W)(a:Ar α):ae:=.box ((a.d e).cells.map .d)
theorem VE (kk:Int)(ps:List Int)(sy st:Int)(aM fin:List D)(ak:List (Ar α))(hl:ps.length<=1000000)(h3:ak.length<=1000000)(hst:0<=st/\st<=64)(bs:List ae)(h0:bs[0]?=some (aD kk ps sy st aM fin (ak.map (Ar.d e))))(j:Nat)(a:Ar α)(ha:ak[j]?=some a)(o:(e a.x).OK) :
  Ex E1 OP (K5 bs j .u) (if pR kk ps sy st e a then(.norm,K5 (bs++[fE e a]) (j+1) .u) else(.ret,(st0 [.u,.u,.d (.v (.bool false)),.u,.u,.u,.u,.u] (bs++[fE e a])))):=by
 have hj:j<ak.length:=(bD ha)
 obtain⟨N,t⟩:=(Ca.fP (tZ kk ps (e a.x) hl o)).get;have u:=fun m x hi=>VF m x 0 hi
 have hj0:(0:Int)<=(j:Int):=by omega
 have bz:ah .i64 ((j:Int)+1)=(j:Int)+1:=wrap_i64 omK;have hdec:ah .i64 (st-1)=st-1:=wrap_i64 omK;have hk1:((j+1:Nat):Int)=(j:Int)+1:=by omega
 have e1:(ak.map (Ar.d e))[j]?=some (a.d e):=by simp[ha]
 have OQ:0<bs.length:=(bD h0)
 obtain⟨B,hB⟩:∃ B,bs.length=B:=⟨_,rfl⟩
 have hg:=fun(o:ae)=>lV (o:=o) hB
 have hs:=fun(o o':ae)=>lW (o:=o) (o':=o') hB
 have g0:∀ X,(bs++X)[0]?=some (aD kk ps sy st aM fin (ak.map (Ar.d e))):=fun X=>by rw[Qa1 OQ];exact h0
 have n3:(ak.map (Ar.d e)).length=ak.length:=by simp
 have hb:pR kk ps sy st e a=(Dc a.f 0 (st-1)&&(Dc a.t 0 (st-1)&&(Dc a.l 0 sy&&cZ kk ps (e a.x)))):=by
  unfold pR AY Dc;generalize cZ kk ps (e a.x)=c;rw[Bool.eq_iff_iff];simp only[Qb2,decide_eq_true_eq];constructor
  ·rintro⟨⟨q1,q2⟩,⟨q3,q4⟩,q5,q6,q7⟩;exact⟨⟨q1,by omega⟩,⟨q3,by omega⟩,⟨q5,q6⟩,q7⟩
  ·rintro⟨⟨q1,q2⟩,⟨q3,q4⟩,⟨q5,q6⟩,q7⟩;exact⟨⟨q1,by omega⟩,⟨q3,by omega⟩,q5,q6,q7⟩
 rw[hb];have u1:=fun m=>u m a.f (st-1)
 have u2:=fun m=>u m a.t (st-1)
 have u3:=fun m=>u m a.l sy
 clear u hb;have sA:Ex E1 OP.l (K5 bs j .u) (.norm,K5 bs j (.d (.v (.bool true)))):=by
  refine Ex.of (n:=60) ?_;clear t u1 u2 u3 hg hs;unfold K5 aD at*;have hjl:(j:Int)<(ak.length:Int):=by omega
  generalize LK .i64 ps=l9,ak.map (Ar.d e)=es at*;have i1:=idx h0;simp -implicitDefEqProofs[OP,f1020,h0,i1,OQ,hjl,n3]
 have sB:Ex E1 OP.r.l.bl.l (K5 bs j (.d (.v (.bool true)))) (.norm,(st0 [.u,.r (.loc 0) 0,.u,.d (.v (.int .i64 j)),.r (.loc B) 0,.u,.u,.u] (bs++[fE e a]))):=by
  refine Ex.of (n:=60) ?_;clear t u1 u2 u3;unfold K5 aD fE at*;obtain⟨s,l1,l2,c,b,u',q,ps',ew,ed⟩:=a.jD e;rw[ed]at e1 ⊢;unfold yO at*;simp only[D.cells,Qd2,Qc0];generalize LK .i64 ps=l9,ak.map (Ar.d e)=es at*;have i0:=idx e1;have i1:=idx h0;have qQ:j<es.length:=(bD e1)
  simp -implicitDefEqProofs[OP,f1020,hj0,qQ,e1,i0,i1,h0,hg,hs,hB,OQ]
 have h0':=g0 [fE e a];have hB':(bs++[fE e a])[B]?=some (fE e a):=hg _;generalize bs++[fE e a]=L at*;clear hg hs g0 h0 OQ hB;have OQ:0<L.length:=(bD h0')
 have bBl:B<L.length:=(bD hB')
 have sC:Ex E1 OP.r.l.bl.r (st0 [.u,.r (.loc 0) 0,.u,.d (.v (.int .i64 j)),.r (.loc B) 0,.u,.u,.u] L)
   (if (Dc a.f 0 (st-1)&&(Dc a.t 0 (st-1)&&(Dc a.l 0 sy&&cZ kk ps (e a.x)))) then(.norm,(st0 [.u,.r (.loc 0) 0,.u,.d (.v (.int .i64 j)),.u,.u,.u,.d (.v (.bool false))] L))
    else(.ret,(st0 [.u,.u,.d (.v (.bool false)),.u,.u,.u,.u,.u] L))):=by
  refine Ex.of (n:=N+300) ?_;clear sA sB e1;unfold fE aD at*;obtain⟨s,l1,l2,c,b,u',q,ps',ew,ed⟩:=a.jD e;rw[ed]at hB';rw[ew]at t;unfold yO wD bA at*;simp only[D.cells,Qd2,Qc0]at hB';generalize Dc a.f 0 (st-1)=b1,Dc a.t 0 (st-1)=b2,Dc a.l 0 sy=b3,cZ kk ps (e a.x)=b4,LK .i64 ps=l9,ak.map (Ar.d e)=es at*;have i1:=idx h0';have i2:=idx hB';cases b1
  ·simp -implicitDefEqProofs[OP,f1020,t,u1,i1,i2,h0',hB',OQ,bBl,hdec]
  cases b2
  ·simp -implicitDefEqProofs[OP,f1020,t,u1,u2,i1,i2,h0',hB',OQ,bBl,hdec]
  cases b3
  ·simp -implicitDefEqProofs[OP,f1020,t,u1,u2,u3,i1,i2,h0',hB',OQ,bBl,hdec]
  cases b4<;>simp -implicitDefEqProofs[OP,f1020,t,u1,u2,u3,i1,i2,h0',hB',OQ,bBl,hdec]
 have sD:Ex E1 OP.r.r (st0 [.u,.r (.loc 0) 0,.u,.d (.v (.int .i64 j)),.u,.u,.u,.d (.v (.bool false))] L) (.norm,K5 L (j+1) .u):=by
  refine Ex.of (n:=60) ?_;unfold K5;rw[hk1];simp -implicitDefEqProofs[OP,f1020,bz]
 cases hbb:(Dc a.f 0 (st-1)&&(Dc a.t 0 (st-1)&&(Dc a.l 0 sy&&cZ kk ps (e a.x)))) with
 | true =>
  rw[hbb,if_pos rfl]at sC;rw[if_pos rfl];exact sA.seq (Ex.seq (Ex.gm (sB.seq sC)) sD)
 | false =>
  rw[hbb,if_neg (by simp)]at sC;rw[if_neg (by simp)];exact sA.seq (Ex.dG (Ex.b_ (sB.seq sC)))
theorem G5 (kk:Int)(ps:List Int)(sy st:Int)(aM fin:List W)(ak:List (Ar α))(hl:ps.length<=1000000)(h1:aM.length<=1000000)(h2:fin.length<=1000000)(h3:ak.length<=1000000)
  (o1:∀ w ∈ aM,w.OK) (o2:∀ w ∈ fin,w.OK) (o3:∀ a ∈ ak,(e a.x).OK) :
  Ca E1 1020 [.d (uP kk ps sy st aM fin e ak)] (.d (.v (.bool (MZ kk ps sy st aM fin e ak))),none):=by
 rw[<-VD];obtain⟨N1,t1⟩:=(Ca.fP (Ca.bO (fO 0 kk ps))).any;have u2:=fun m=>G6 m sy
 have u3:=fun m=>VF m st 0 64
 obtain⟨N4,t4⟩:=(zT kk ps aM st hl h1 o1).any;obtain⟨N5,t5⟩:=(zT kk ps fin st hl h2 o2).any;obtain⟨K,hK⟩:∃ K,K=N1+N4+N5:=⟨_,rfl⟩
 replace t1:=t1 K omK;replace t4:=t4 K omK;replace t5:=t5 K omK;have n3:(ak.map (Ar.d e)).length=ak.length:=by simp
 have sA:Ex E1 f1020.body.l (st0 [.d (uP kk ps sy st aM fin e ak),.u,.u,.u,.u,.u,.u,.u] [])
   (.norm,(st0 [.u,.r (.loc 0) 0,.u,.u,.u,.u,.u,.u] [aD kk ps sy st (aM.map W.d) (fin.map W.d) (ak.map (Ar.d e))])):=by
  refine Ex.of (n:=60) ?_;unfold uP qW aD;simp -implicitDefEqProofs[f1020]
 have sB:Ex E1 f1020.body.r.l (st0 [.u,.r (.loc 0) 0,.u,.u,.u,.u,.u,.u] [aD kk ps sy st (aM.map W.d) (fin.map W.d) (ak.map (Ar.d e))])
   (if yT kk ps sy st aM fin ak.length
    then(.norm,(st0 [.u,.r (.loc 0) 0,.u,.u,.u,.d (.v (.bool false)),.u,.u] [aD kk ps sy st (aM.map W.d) (fin.map W.d) (ak.map (Ar.d e))]))
    else(.ret,(st0 [.u,.u,.d (.v (.bool false)),.u,.u,.u,.u,.u] [aD kk ps sy st (aM.map W.d) (fin.map W.d) (ak.map (Ar.d e))]))):=by
  refine Ex.of (n:=K+300) ?_;unfold yT;clear sA o1 o2 o3 hK;generalize aJ kk ps=b1,Dc sy 1 32=b2,Dc st 0 64=b3,wsB kk ps aM st=b4,wsB kk ps fin st=b5,ak.length=m3 at*;unfold aD bA at*;generalize LK .i64 ps=l9,aM.map W.d=es1,fin.map W.d=es2,ak.map (Ar.d e)=es3 at*;cases b1
  ·simp -implicitDefEqProofs[f1020,t1]
  cases b2
  ·simp -implicitDefEqProofs[f1020,t1,u2]
  cases b3
  ·simp -implicitDefEqProofs[f1020,t1,u2,u3]
  cases b4
  ·simp -implicitDefEqProofs[f1020,t1,u2,u3,t4]
  cases b5
  ·simp -implicitDefEqProofs[f1020,t1,u2,u3,t4,t5]
  by_cases c3:(m3:Int)<=2048
  ·have c3':¬ 2048<(m3:Int):=by omega
   rw[decide_eq_true c3];clear c3;simp -implicitDefEqProofs[f1020,t1,u2,u3,t4,t5,c3',n3]
  ·have c3':2048<(m3:Int):=by omega
   rw[decide_eq_false c3];clear c3;simp -implicitDefEqProofs[f1020,t1,u2,u3,t4,t5,c3',n3]
 unfold VC;cases hH:yT kk ps sy st aM fin ak.length with
 | false =>
  rw[hH,if_neg (by simp)]at sB;rw[Q41];refine Ca.body (o:=.ret) rfl (k1020:E1.fn _=_) rfl (sA.seq (Ex.dG sB)) (by simp) ?_;simp[show f1020.res=[.var 2] from rfl,show f1020.ref=false from rfl]
 | true =>
  rw[hH,if_pos rfl]at sB;rw[Qs0];have hst:0<=st/\st<=64:=by
   unfold yT Dc at hH;simp only[Qb2,decide_eq_true_eq]at hH;exact hH.2.2.1
  obtain⟨bx,hbx⟩:∃ bx,bx=aD kk ps sy st (aM.map W.d) (fin.map W.d) (ak.map (Ar.d e)):=⟨_,rfl⟩
  have hloop:=Ex.xh (E:=E1) (b:=OP) ak (fun a => !pR kk ps sy st e a) (fun j=>K5 (bx::(ak.take j).map (fE e)) j .u) (.exit 0,K5 (bx::ak.map (fE e)) ak.length (.d (.v (.bool false))))
   (fun j=>(.ret,(st0 [.u,.u,.d (.v (.bool false)),.u,.u,.u,.u,.u] (bx::(ak.take (j+1)).map (fE e))))) (by simp) (by simp)
   (fun j a ha=>by
    have hr:=VE kk ps sy st (aM.map W.d) (fin.map W.d) ak hl h3 hst (bx::(ak.take j).map (fE e)) (by rw[hbx];rfl) j a ha (o3 a (Qa2 ha));have htk:ak.take (j+1)=ak.take j++[a]:=by rw[Q01,ha];rfl
    rw[htk,Qq0];cases hi:pR kk ps sy st e a with
    | true =>
     rw[hi,if_pos rfl]at hr;simpa using hr
    | false =>
     rw[hi,if_neg (by simp)]at hr;simpa using hr)
   (by
    refine Ex.of (n:=60) ?_;rw[Qn1];clear sA sB t1 t4 t5 u2 u3;subst hbx;unfold K5 aD;rw[<-n3];generalize ak.map (Ar.d e)=es,ak.map (fE e)=bs,aM.map W.d=es1,fin.map W.d=es2,LK .i64 ps=l9 at*;simp -implicitDefEqProofs[OP,f1020])
  rw[<-hbx]at sA sB;have sC:Ex E1 f1020.body.r.r.l.l (st0 [.u,.r (.loc 0) 0,.u,.u,.u,.d (.v (.bool false)),.u,.u] [bx]) (.norm,K5 (bx::(ak.take 0).map (fE e)) 0 .u):=by
   refine Ex.of (n:=60) ?_;unfold K5;simp -implicitDefEqProofs[f1020]
  cases hr:ak.findIdx? (fun a => !pR kk ps sy st e a) with
  | none =>
   rw[hr]at hloop;have hall:ak.all (pR kk ps sy st e)=true:=by
    rw[Xa0]at hr;rw[Qf2];intro a ha;have:=hr a ha;simpa using this
   rw[hall];have sD:Ex E1 f1020.body.r.r.r (K5 (bx::ak.map (fE e)) ak.length (.d (.v (.bool false)))) (.ret,(st0 [.u,.u,.d (.v (.bool true)),.u,.u,.u,.u,.u] (bx::ak.map (fE e)))):=by
    refine Ex.of (n:=60) ?_;unfold K5;generalize ak.map (fE e)=bs at*;simp -implicitDefEqProofs[f1020]
   refine Ca.body (o:=.ret) rfl (k1020:E1.fn _=_) rfl (sA.seq (sB.seq (Ex.seq (sC.seq (Ex.block hloop)) sD))) (by simp) ?_;simp[show f1020.res=[.var 2] from rfl,show f1020.ref=false from rfl]
  | some j =>
   rw[hr]at hloop;have hall:ak.all (pR kk ps sy st e)=false:=by
    rw[Qv1]at hr;obtain⟨hj,h4,_⟩:=hr;rw[List.all_eq_false];exact⟨_,Qi2 hj,by simpa using h4⟩
   rw[hall];refine Ca.body (o:=.ret) rfl (k1020:E1.fn _=_) rfl (sA.seq (sB.seq (Ex.dG (sC.seq (Ex.b_ hloop))))) (by simp) ?_;simp[show f1020.res=[.var 2] from rfl,show f1020.ref=false from rfl]
end
end Fi.S
