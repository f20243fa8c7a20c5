import Derived.Test.YtkekcmgkpdkieaaGreatDoorCT
set_option linter.unusedVariables false
set_option linter.unusedSimpArgs false
noncomputable section
namespace Fi.S
open Go Fi
set_option maxHeartbeats 8000000
set_option maxRecDepth 10000
section
variable {α:Type} {e:α->W}
def wsB (kk:Int)(ps:List Int)(ws:List W)(n:Int):Bool:=decide ((ws.length:Int)=n)&&ws.all (bU kk ps)
def wwL:aF:=f1054.body.r.r.l.r.bl.lp
def wwS (kk:Int)(ps:List Int)(es:List D)(n:Int)(j:Nat)(t:FV):St:=(st0 [.u,.d (.s 8 es),dI n,rL 0,.u,dI j,.u,t,.u] [aK kk ps])
theorem yM (kk:Int)(ps:List Int)(ws:List W)(n:Int)(hl:ps.length<=1000000)(hn:ws.length<=1000000)(o1:∀ w ∈ ws,w.OK) :
  Ca E1 1054 [.d (bD kk ps),.d (.s 8 (ws.map W.d)),dI n] (dB (wsB kk ps ws n),none):=by
 have n1:(ws.map W.d).length=ws.length:=aC;unfold wsB
 by_cases hlen:(ws.length:Int)=n
 ·subst hlen;rw[decide_eq_true rfl,Ql0];have hloop:=Ex.vU (E:=E1) (b:=wwL) ws (bU kk ps) (fun j=>wwS kk ps (ws.map W.d) ws.length j .u) (.exit 0,wwS kk ps (ws.map W.d) ws.length ws.length (dB false))
   (.ret,(st0 (.u::.u::.u::.u::dB false::mO) [aK kk ps])) aC aC
   (fun j x hx=>by
    have hj:j<ws.length:=(aS hx)
    obtain⟨N,t⟩:=(Ca.jg (r9 kk ps x hl (o1 x (Qb2 hx)))).get;have hj0:(0:Int)<=(j:Int):=ae;have aP:av .i64 ((j:Int)+1)=(j:Int)+1:=wrap_i64 ae;have hk1:((j+1:Nat):Int)=(j:Int)+1:=ae;have e1:(ws.map W.d)[j]?=some x.d:=by simp[hx]
    obtain⟨s,l1,l2,c,b,u,q,ps',ex⟩:=x.bq;simp only[ex]at t e1;have hjl:(j:Int)<(ws.length:Int):=ae;unfold wD bD at*;generalize ws.map W.d=es at*;have i0:=idx e1;have dw:j<es.length:=(aS e1)
    generalize bU kk ps x=r,(ws.length:Int)=m at*;refine Ex.of (n:=N+100) ?_;unfold wwS aK;generalize LK .i64 ps=l9 at*;cases r
    ·rw[if_neg aC];simp[wwL,f1054,t,hj0,dw,hjl,e1,i0]
    ·rw[if_pos rfl,hk1];simp[wwL,f1054,t,hj0,dw,hjl,e1,i0,aP])
   (by
    apply e6;unfold wwS aK;generalize ws.map W.d=es,LK .i64 ps=l9 at*;simp[wwL,f1054])
  have sA:Ex E1 f1054.body.l (st0 (.d (bD kk ps)::.d (.s 8 (ws.map W.d))::dI ws.length::qm) []) (.norm,(st0 (.u::.d (.s 8 (ws.map W.d))::dI ws.length::rL 0::iO) [aK kk ps])):=by
   apply e6;unfold bD aK;simp[f1054]
  have sB := nx sA f1054.body.r.l (st0 [.u,.d (.s 8 (ws.map W.d)),dI ws.length,rL 0,.u,.u,dB false,.u,.u] [aK kk ps]) (by
   apply e6;clear hloop sA;rw[<-n1];generalize ws.map W.d=es at*;simp[f1054])
  have sC := nx sB f1054.body.r.r.l.l (st0 [.u,.d (.s 8 (ws.map W.d)),dI ws.length,rL 0,.u,dI 0,.u,.u,.u] [aK kk ps]) (by
   apply e6;simp[f1054])
  cases hr:ws.all (bU kk ps) with
  | true =>
   rw[hr,if_pos rfl]at hloop;have sD:Ex E1 f1054.body.r.r.r (st0 [.u,.d (.s 8 (ws.map W.d)),dI ws.length,rL 0,.u,dI ws.length,.u,dB false,.u] [aK kk ps]) (.ret,(st0 (.u::.u::.u::.u::dB true::mO) [aK kk ps])):=by
    apply e6;simp[f1054]
   refine Ca.body (o:=.ret) rfl (k1054:E1.fn _=_) rfl (sA.seq (sB.seq (Ex.seq (sC.seq (Ex.block hloop)) sD))) aC ?_;simp[show f1054.res=[.var 4] from rfl,show f1054.ref=false from rfl]
  | false =>
   rw[hr,if_neg aC]at hloop;refine Ca.body (o:=.ret) rfl (k1054:E1.fn _=_) rfl (sA.seq (sB.seq (Ex.bN (sC.seq (Ex.bG hloop))))) aC ?_;simp[show f1054.res=[.var 4] from rfl,show f1054.ref=false from rfl]
 ·have hne:((ws.length:Int) != n)=true:=by simpa using hlen
  rw[decide_eq_false hlen,Qs1];refine Ca.bO (n:=100) ?_;rw[aB rfl (k1054:E1.fn _=_) rfl];rw[<-n1]at hne;unfold bD;generalize ws.map W.d=es at*;simp[f1054,hne]
def xO (kk:Int)(ps:List Int)(sy st:Int)(aJ fin:List W)(n:Nat):Bool :=
 aR kk ps&&(BF sy 1 32&&(BF st 0 64&&(wsB kk ps aJ st&&(wsB kk ps fin st&&decide ((n:Int)<=2048)))))
def TN (kk:Int)(ps:List Int)(sy st:Int)(aJ fin:List W)(e:α->W)(ak:List (Ar α)):Bool:=xO kk ps sy st aJ fin ak.length&&ak.all (mQ kk ps sy st e)
theorem TQ (kk:Int)(ps:List Int)(sy st:Int)(aJ fin:List W)(ak:List (Ar α)):TN kk ps sy st aJ fin e ak=zi kk ps sy st aJ fin e ak:=by
 unfold TN zi xO Eh wsB BF;generalize ak.all (mQ kk ps sy st e)=b1;generalize aJ.all (bU kk ps)=b2;generalize fin.all (bU kk ps)=b3;generalize aR kk ps=b4;rw[Bool.eq_iff_iff];simp only[Qa2,decide_eq_true_eq];grind
def MO:aF:=f1020.body.r.r.l.r.bl.lp
def KX (bs:List ai)(j:Nat)(t:FV):St:=(st0 [.u,rL 0,.u,dI j,.u,.u,t,.u] bs)
def ja (e:α->W)(a:Ar α):ai:=.box ((a.d e).cells.map .d)
theorem TR (kk:Int)(ps:List Int)(sy st:Int)(aJ fin:List D)(ak:List (Ar α))(hl:ps.length<=1000000)(h3:ak.length<=1000000)(hst:0<=st/\st<=64)(bs:List ai)(h0:bs[0]?=some (aO kk ps sy st aJ fin (ak.map (Ar.d e))))(j:Nat)(a:Ar α)(ha:ak[j]?=some a)(o:(e a.x).OK) :
  Ex E1 MO (KX bs j .u) (if mQ kk ps sy st e a then(.norm,KX (bs++[ja e a]) (j+1) .u) else(.ret,(st0 (.u::.u::dB false::iO) (bs++[ja e a])))):=by
 have hj:j<ak.length:=(aS ha)
 obtain⟨N,t⟩:=(Ca.jg (r9 kk ps (e a.x) hl o)).get;have u:=fun m x hi=>TS m x 0 hi
 have hj0:(0:Int)<=(j:Int):=ae;have aP:av .i64 ((j:Int)+1)=(j:Int)+1:=wrap_i64 ae;have hdec:av .i64 (st-1)=st-1:=wrap_i64 ae;have hk1:((j+1:Nat):Int)=(j:Int)+1:=ae;have e1:(ak.map (Ar.d e))[j]?=some (a.d e):=by simp[ha]
 have Yc:0<bs.length:=(aS h0)
 obtain⟨B,hB⟩:∃ B,bs.length=B:=⟨_,rfl⟩
 have hg:=fun(o:ai)=>mW (o:=o) hB
 have hs:=fun(o o':ai)=>mX (o:=o) (o':=o') hB
 have g0:∀ X,(bs++X)[0]?=some (aO kk ps sy st aJ fin (ak.map (Ar.d e))):=fun X=>by rw[Qa0 Yc];exact h0
 have n3:(ak.map (Ar.d e)).length=ak.length:=aC;have hb:mQ kk ps sy st e a=(BF a.f 0 (st-1)&&(BF a.t 0 (st-1)&&(BF a.l 0 sy&&bU kk ps (e a.x)))):=by
  unfold mQ OM BF;generalize bU kk ps (e a.x)=c;rw[Bool.eq_iff_iff];simp only[Qa2,decide_eq_true_eq];constructor
  ·rintro⟨⟨q1,q2⟩,⟨q3,q4⟩,q5,q6,q7⟩;exact⟨⟨q1,ae⟩,⟨q3,ae⟩,⟨q5,q6⟩,q7⟩
  ·rintro⟨⟨q1,q2⟩,⟨q3,q4⟩,⟨q5,q6⟩,q7⟩;exact⟨⟨q1,ae⟩,⟨q3,ae⟩,q5,q6,q7⟩
 rw[hb];have u1:=fun m=>u m a.f (st-1)
 have u2:=fun m=>u m a.t (st-1)
 have u3:=fun m=>u m a.l sy
 clear u hb;have sA:Ex E1 MO.l (KX bs j .u) (.norm,KX bs j (dB true)):=by
  apply e6;clear t u1 u2 u3 hg hs;unfold KX aO at*;have hjl:(j:Int)<(ak.length:Int):=ae;generalize LK .i64 ps=l9,ak.map (Ar.d e)=es at*;have i1:=idx h0;simp[MO,f1020,h0,i1,Yc,hjl,n3]
 have sB := nx sA MO.r.l.bl.l (st0 [.u,rL 0,.u,dI j,rL B,.u,.u,.u] (bs++[ja e a])) (by
  apply e6;clear t u1 u2 u3;unfold KX aO ja at*;obtain⟨s,l1,l2,c,b,u',q,ps',ew,ed⟩:=a.dP e;rw[ed]at e1 ⊢;unfold mM at*;simp only[D.cells,Qe1,Qc2];generalize LK .i64 ps=l9,ak.map (Ar.d e)=es at*;have i0:=idx e1;have i1:=idx h0;have dw:j<es.length:=(aS e1)
  simp[MO,f1020,hj0,dw,e1,i0,i1,h0,hg,hs,hB,Yc])
 have h0':=g0 [ja e a];have hB':(bs++[ja e a])[B]?=some (ja e a):=hg _;generalize bs++[ja e a]=L at*;clear hg hs g0 h0 Yc hB;have Yc:0<L.length:=(aS h0')
 have bBl:B<L.length:=(aS hB')
 have sC:Ex E1 MO.r.l.bl.r (st0 [.u,rL 0,.u,dI j,rL B,.u,.u,.u] L)
   (if (BF a.f 0 (st-1)&&(BF a.t 0 (st-1)&&(BF a.l 0 sy&&bU kk ps (e a.x)))) then(.norm,(st0 [.u,rL 0,.u,dI j,.u,.u,.u,dB false] L))
    else(.ret,(st0 (.u::.u::dB false::iO) L))):=by
  refine Ex.of (n:=N+300) ?_;clear sA sB e1;unfold ja aO at*;obtain⟨s,l1,l2,c,b,u',q,ps',ew,ed⟩:=a.dP e;rw[ed]at hB';rw[ew]at t;unfold mM wD bD at*;simp only[D.cells,Qe1,Qc2]at hB';generalize BF a.f 0 (st-1)=b1,BF a.t 0 (st-1)=b2,BF a.l 0 sy=b3,bU kk ps (e a.x)=b4,ak.map (Ar.d e)=es at*;have i1:=idx h0';have i2:=idx hB';cases b1
  ·simp[MO,f1020,t,u1,i1,i2,h0',hB',Yc,bBl,hdec]
  cases b2
  ·simp[MO,f1020,t,u1,u2,i1,i2,h0',hB',Yc,bBl,hdec]
  cases b3
  ·simp[MO,f1020,t,u1,u2,u3,i1,i2,h0',hB',Yc,bBl,hdec]
  cases b4<;>simp[MO,f1020,t,u1,u2,u3,i1,i2,h0',hB',Yc,bBl,hdec]
 have sD:Ex E1 MO.r.r (st0 [.u,rL 0,.u,dI j,.u,.u,.u,dB false] L) (.norm,KX L (j+1) .u):=by
  apply e6;unfold KX;rw[hk1];simp[MO,f1020,aP]
 cases hbb:(BF a.f 0 (st-1)&&(BF a.t 0 (st-1)&&(BF a.l 0 sy&&bU kk ps (e a.x)))) with
 | true =>
  rw[hbb,if_pos rfl]at sC;rw[if_pos rfl];exact sA.seq (Ex.seq (Ex.fF (sB.seq sC)) sD)
 | false =>
  rw[hbb,if_neg aC]at sC;rw[if_neg aC];exact sA.seq (Ex.bN (Ex.bG (sB.seq sC)))
theorem FM (kk:Int)(ps:List Int)(sy st:Int)(aJ fin:List W)(ak:List (Ar α))(hl:ps.length<=1000000)(h1:aJ.length<=1000000)(h2:fin.length<=1000000)(h3:ak.length<=1000000)
  (o1:∀ w ∈ aJ,w.OK) (o2:∀ w ∈ fin,w.OK) (o3:∀ a ∈ ak,(e a.x).OK) :
  Ca E1 1020 [.d (mR kk ps sy st aJ fin e ak)] (dB (zi kk ps sy st aJ fin e ak),none):=by
 rw[<-TQ];obtain⟨N1,t1⟩:=(Ca.jg (Ca.bO (iY 0 kk ps))).any;have u2:=fun m=>FN m sy
 have u3:=fun m=>TS m st 0 64
 obtain⟨N4,t4⟩:=(yM kk ps aJ st hl h1 o1).any;obtain⟨N5,t5⟩:=(yM kk ps fin st hl h2 o2).any;obtain⟨K,hK⟩:∃ K,K=N1+N4+N5:=⟨_,rfl⟩
 replace t1:=t1 K ae;replace t4:=t4 K ae;replace t5:=t5 K ae;have n3:(ak.map (Ar.d e)).length=ak.length:=aC;have sA:Ex E1 f1020.body.l (st0 (.d (mR kk ps sy st aJ fin e ak)::nO) [])
   (.norm,(st0 (.u::rL 0::qm) [aO kk ps sy st (aJ.map W.d) (fin.map W.d) (ak.map (Ar.d e))])):=by
  apply e6;unfold mR gI aO;simp[f1020]
 have sB:Ex E1 f1020.body.r.l (st0 (.u::rL 0::qm) [aO kk ps sy st (aJ.map W.d) (fin.map W.d) (ak.map (Ar.d e))])
   (if xO kk ps sy st aJ fin ak.length
    then(.norm,(st0 [.u,rL 0,.u,.u,.u,dB false,.u,.u] [aO kk ps sy st (aJ.map W.d) (fin.map W.d) (ak.map (Ar.d e))]))
    else(.ret,(st0 (.u::.u::dB false::iO) [aO kk ps sy st (aJ.map W.d) (fin.map W.d) (ak.map (Ar.d e))]))):=by
  refine Ex.of (n:=K+300) ?_;unfold xO;clear sA o1 o2 o3 hK;generalize aR kk ps=b1,BF sy 1 32=b2,BF st 0 64=b3,wsB kk ps aJ st=b4,wsB kk ps fin st=b5,ak.length=m3 at*;unfold aO bD at*;generalize LK .i64 ps=l9,aJ.map W.d=es1,fin.map W.d=es2,ak.map (Ar.d e)=Yb at*;cases b1
  ·simp[f1020,t1]
  cases b2
  ·simp[f1020,t1,u2]
  cases b3
  ·simp[f1020,t1,u2,u3]
  cases b4
  ·simp[f1020,t1,u2,u3,t4]
  cases b5
  ·simp[f1020,t1,u2,u3,t4,t5]
  by_cases c3:(m3:Int)<=2048
  ·have c3':¬ 2048<(m3:Int):=ae;rw[decide_eq_true c3];clear c3;simp[f1020,t1,u2,u3,t4,t5,c3',n3]
  ·have c3':2048<(m3:Int):=ae;rw[decide_eq_false c3];clear c3;simp[f1020,t1,u2,u3,t4,t5,c3',n3]
 unfold TN;cases hH:xO kk ps sy st aJ fin ak.length with
 | false =>
  rw[hH,if_neg aC]at sB;rw[Qs1];refine Ca.body (o:=.ret) rfl (k1020:E1.fn _=_) rfl (sA.seq (Ex.bN sB)) aC ?_;simp[show f1020.res=[.var 2] from rfl,show f1020.ref=false from rfl]
 | true =>
  rw[hH,if_pos rfl]at sB;rw[Ql0];have hst:0<=st/\st<=64:=by
   unfold xO BF at hH;simp only[Qa2,decide_eq_true_eq]at hH;exact hH.2.2.1
  obtain⟨bx,hbx⟩:∃ bx,bx=aO kk ps sy st (aJ.map W.d) (fin.map W.d) (ak.map (Ar.d e)):=⟨_,rfl⟩
  have hloop:=Ex.vV (E:=E1) (b:=MO) ak (fun a => !mQ kk ps sy st e a) (fun j=>KX (bx::(ak.take j).map (ja e)) j .u) (.exit 0,KX (bx::ak.map (ja e)) ak.length (dB false))
   (fun j=>(.ret,(st0 (.u::.u::dB false::iO) (bx::(ak.take (j+1)).map (ja e))))) aC aC
   (fun j a ha=>by
    have hr:=TR kk ps sy st (aJ.map W.d) (fin.map W.d) ak hl h3 hst (bx::(ak.take j).map (ja e)) (by rw[hbx];rfl) j a ha (o3 a (Qb2 ha));have htk:ak.take (j+1)=ak.take j++[a]:=by rw[Xi1,ha];rfl
    rw[htk,Qr0];cases hi:mQ kk ps sy st e a with
    | true =>
     rw[hi,if_pos rfl]at hr;simpa using hr
    | false =>
     rw[hi,if_neg aC]at hr;simpa using hr)
   (by
    apply e6;rw[Qj0];clear sA sB t1 t4 t5 u2 u3;subst hbx;unfold KX aO;rw[<-n3];generalize ak.map (Ar.d e)=es,ak.map (ja e)=bs,aJ.map W.d=es1,fin.map W.d=es2 at*;simp[MO,f1020])
  rw[<-hbx]at sA sB;have sC:Ex E1 f1020.body.r.r.l.l (st0 [.u,rL 0,.u,.u,.u,dB false,.u,.u] [bx]) (.norm,KX (bx::(ak.take 0).map (ja e)) 0 .u):=by
   apply e6;unfold KX;simp[f1020]
  cases hr:ak.findIdx? (fun a => !mQ kk ps sy st e a) with
  | none =>
   rw[hr]at hloop;have hall:ak.all (mQ kk ps sy st e)=true:=by
    rw[Xd1]at hr;rw[Qf0];intro a ha;have:=hr a ha;simpa using this
   rw[hall];have sD:Ex E1 f1020.body.r.r.r (KX (bx::ak.map (ja e)) ak.length (dB false)) (.ret,(st0 (.u::.u::dB true::iO) (bx::ak.map (ja e)))):=by
    apply e6;unfold KX;generalize ak.map (ja e)=bs at*;simp[f1020]
   refine Ca.body (o:=.ret) rfl (k1020:E1.fn _=_) rfl (sA.seq (sB.seq (Ex.seq (sC.seq (Ex.block hloop)) sD))) aC ?_;simp[show f1020.res=[.var 2] from rfl,show f1020.ref=false from rfl]
  | some j =>
   rw[hr]at hloop;have hall:ak.all (mQ kk ps sy st e)=false:=by
    rw[Qr1]at hr;obtain⟨hj,h4,_⟩:=hr;rw[List.all_eq_false];exact⟨_,Qj1 hj,by simpa using h4⟩
   rw[hall];refine Ca.body (o:=.ret) rfl (k1020:E1.fn _=_) rfl (sA.seq (sB.seq (Ex.bN (sC.seq (Ex.bG hloop))))) aC ?_;simp[show f1020.res=[.var 2] from rfl,show f1020.ref=false from rfl]
end
end Fi.S
