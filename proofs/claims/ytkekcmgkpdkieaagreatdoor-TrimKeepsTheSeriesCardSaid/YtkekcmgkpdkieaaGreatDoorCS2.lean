import Derived.Test.YtkekcmgkpdkieaaGreatDoorCT
set_option linter.unusedVariables false
set_option linter.unusedSimpArgs false
noncomputable section
namespace Fi.S
open Go Fi
set_option maxHeartbeats 8000000
set_option maxRecDepth 10000
section
variable {α:Type} {e:α->W}
def wsB (kk:Int)(ps:List Int)(ws:List W)(n:Int):Bool:=decide ((ws.length:Int)=n)&&ws.all (di kk ps)
def wwL:aG:=f1054.body.r.r.l.r.bl.lp
def wwS (kk:Int)(ps:List Int)(es:List D)(n:Int)(j:Nat)(t:FV):St:=(st0 [.u,.d (.s 8 es),dI n,rL 0,.u,dI j,.u,t,.u] [aI kk ps])
theorem AU (kk:Int)(ps:List Int)(ws:List W)(n:Int)(hl:ps.length<=1000000)(hn:ws.length<=1000000)(o1:∀ w ∈ ws,w.OK) :
  Ca E1 1054 [.d (aV kk ps),.d (.s 8 (ws.map W.d)),dI n] (dB (wsB kk ps ws n),none):=by
 have n1:(ws.map W.d).length=ws.length:=aC;unfold wsB
 by_cases hlen:(ws.length:Int)=n
 ·subst hlen;rw[decide_eq_true rfl,Qp1];have hloop:=Ex.Ii (E:=E1) (b:=wwL) ws (di kk ps) (fun j=>wwS kk ps (ws.map W.d) ws.length j .u) (.exit 0,wwS kk ps (ws.map W.d) ws.length ws.length (dB false))
   (.ret,(st0 (.u::.u::.u::.u::dB false::rJ) [aI kk ps])) aC aC
   (fun j x hx=>by
    have hj:j<ws.length:=(aU hx)
    obtain⟨N,t⟩:=(Ca.gV (uL kk ps x hl (o1 x (Qa2 hx)))).get;have hj0:(0:Int)<=(j:Int):=ae;have aS:ak .i64 ((j:Int)+1)=(j:Int)+1:=wrap_i64 ae;have hk1:((j+1:Nat):Int)=(j:Int)+1:=ae;have e1:(ws.map W.d)[j]?=some x.d:=by simp[hx]
    obtain⟨s,l1,l2,c,b,u,q,ps',ex⟩:=x.aP;simp only[ex]at t e1;have hjl:(j:Int)<(ws.length:Int):=ae;unfold wD aV at*;generalize ws.map W.d=es at*;have i0:=idx e1;have fJ:j<es.length:=(aU e1)
    generalize di kk ps x=r,(ws.length:Int)=m at*;refine Ex.of (n:=N+100) ?_;unfold wwS aI;generalize LK .i64 ps=l9 at*;cases r
    ·rw[if_neg aC];simp[wwL,f1054,t,hj0,fJ,hjl,e1,i0]
    ·rw[if_pos rfl,hk1];simp[wwL,f1054,t,hj0,fJ,hjl,e1,i0,aS])
   (by
    apply e6;unfold wwS aI;generalize ws.map W.d=es,LK .i64 ps=l9 at*;simp[wwL,f1054])
  have sA:Ex E1 f1054.body.l (st0 (.d (aV kk ps)::.d (.s 8 (ws.map W.d))::dI ws.length::rM) []) (.norm,(st0 (.u::.d (.s 8 (ws.map W.d))::dI ws.length::rL 0::jP) [aI kk ps])):=by
   apply e6;unfold aV aI;simp[f1054]
  have sB := nx sA f1054.body.r.l (st0 [.u,.d (.s 8 (ws.map W.d)),dI ws.length,rL 0,.u,.u,dB false,.u,.u] [aI kk ps]) (by
   apply e6;clear hloop sA;rw[<-n1];generalize ws.map W.d=es at*;simp[f1054])
  have sC := nx sB f1054.body.r.r.l.l (st0 [.u,.d (.s 8 (ws.map W.d)),dI ws.length,rL 0,.u,dI 0,.u,.u,.u] [aI kk ps]) (by
   apply e6;simp[f1054])
  cases hr:ws.all (di kk ps) with
  | true =>
   rw[hr,if_pos rfl]at hloop;have sD:Ex E1 f1054.body.r.r.r (st0 [.u,.d (.s 8 (ws.map W.d)),dI ws.length,rL 0,.u,dI ws.length,.u,dB false,.u] [aI kk ps]) (.ret,(st0 (.u::.u::.u::.u::dB true::rJ) [aI kk ps])):=by
    apply e6;simp[f1054]
   refine Ca.body (o:=.ret) rfl (k1054:E1.fn _=_) rfl (sA.seq (sB.seq (Ex.seq (sC.seq (Ex.block hloop)) sD))) aC ?_;simp[show f1054.res=[.var 4] from rfl,show f1054.ref=false from rfl]
  | false =>
   rw[hr,if_neg aC]at hloop;refine Ca.body (o:=.ret) rfl (k1054:E1.fn _=_) rfl (sA.seq (sB.seq (Ex.dE (sC.seq (Ex.b_ hloop))))) aC ?_;simp[show f1054.res=[.var 4] from rfl,show f1054.ref=false from rfl]
 ·have hne:((ws.length:Int) != n)=true:=by simpa using hlen
  rw[decide_eq_false hlen,Qz0];refine Ca.bQ (n:=100) ?_;rw[aB rfl (k1054:E1.fn _=_) rfl];rw[<-n1]at hne;unfold aV;generalize ws.map W.d=es at*;simp[f1054,hne]
def zO (kk:Int)(ps:List Int)(sy st:Int)(aK fin:List W)(n:Nat):Bool :=
 aM kk ps&&(Bl sy 1 32&&(Bl st 0 64&&(wsB kk ps aK st&&(wsB kk ps fin st&&decide ((n:Int)<=2048)))))
def Xf (kk:Int)(ps:List Int)(sy st:Int)(aK fin:List W)(e:α->W)(av:List (Ar α)):Bool:=zO kk ps sy st aK fin av.length&&av.all (qP kk ps sy st e)
theorem Xg (kk:Int)(ps:List Int)(sy st:Int)(aK fin:List W)(av:List (Ar α)):Xf kk ps sy st aK fin e av=Og kk ps sy st aK fin e av:=by
 unfold Xf Og zO PZ wsB Bl;generalize av.all (qP kk ps sy st e)=b1;generalize aK.all (di kk ps)=b2;generalize fin.all (di kk ps)=b3;generalize aM kk ps=b4;rw[Bool.eq_iff_iff];simp only[Qc1,decide_eq_true_eq];grind
def P6:aG:=f1020.body.r.r.l.r.bl.lp
def Oh (bs:List ai)(j:Nat)(t:FV):St:=(st0 [.u,rL 0,.u,dI j,.u,.u,t,.u] bs)
def jk (e:α->W)(a:Ar α):ai:=.box ((a.d e).cells.map .d)
theorem Xh (kk:Int)(ps:List Int)(sy st:Int)(aK fin:List D)(av:List (Ar α))(hl:ps.length<=1000000)(h3:av.length<=1000000)(hst:0<=st/\st<=64)(bs:List ai)(h0:bs[0]?=some (aX kk ps sy st aK fin (av.map (Ar.d e))))(j:Nat)(a:Ar α)(ha:av[j]?=some a)(o:(e a.x).OK) :
  Ex E1 P6 (Oh bs j .u) (if qP kk ps sy st e a then(.norm,Oh (bs++[jk e a]) (j+1) .u) else(.ret,(st0 (.u::.u::dB false::jP) (bs++[jk e a])))):=by
 have hj:j<av.length:=(aU ha)
 obtain⟨N,t⟩:=(Ca.gV (uL kk ps (e a.x) hl o)).get;have u:=fun m x hi=>Xi m x 0 hi
 have hj0:(0:Int)<=(j:Int):=ae;have aS:ak .i64 ((j:Int)+1)=(j:Int)+1:=wrap_i64 ae;have hdec:ak .i64 (st-1)=st-1:=wrap_i64 ae;have hk1:((j+1:Nat):Int)=(j:Int)+1:=ae;have e1:(av.map (Ar.d e))[j]?=some (a.d e):=by simp[ha]
 have b0l:0<bs.length:=(aU h0)
 obtain⟨B,hB⟩:∃ B,bs.length=B:=⟨_,rfl⟩
 have hg:=fun(o:ai)=>uJ (o:=o) hB
 have hs:=fun(o o':ai)=>uK (o:=o) (o':=o') hB
 have g0:∀ X,(bs++X)[0]?=some (aX kk ps sy st aK fin (av.map (Ar.d e))):=fun X=>by rw[Qa0 b0l];exact h0
 have n3:(av.map (Ar.d e)).length=av.length:=aC;have hb:qP kk ps sy st e a=(Bl a.f 0 (st-1)&&(Bl a.t 0 (st-1)&&(Bl a.l 0 sy&&di kk ps (e a.x)))):=by
  unfold qP stB Bl;generalize di kk ps (e a.x)=c;rw[Bool.eq_iff_iff];simp only[Qc1,decide_eq_true_eq];constructor
  ·rintro⟨⟨q1,q2⟩,⟨q3,q4⟩,q5,q6,q7⟩;exact⟨⟨q1,ae⟩,⟨q3,ae⟩,⟨q5,q6⟩,q7⟩
  ·rintro⟨⟨q1,q2⟩,⟨q3,q4⟩,⟨q5,q6⟩,q7⟩;exact⟨⟨q1,ae⟩,⟨q3,ae⟩,q5,q6,q7⟩
 rw[hb];have u1:=fun m=>u m a.f (st-1)
 have u2:=fun m=>u m a.t (st-1)
 have u3:=fun m=>u m a.l sy
 clear u hb;have sA:Ex E1 P6.l (Oh bs j .u) (.norm,Oh bs j (dB true)):=by
  apply e6;clear t u1 u2 u3 hg hs;unfold Oh aX at*;have hjl:(j:Int)<(av.length:Int):=ae;generalize LK .i64 ps=l9,av.map (Ar.d e)=es at*;have i1:=idx h0;simp[P6,f1020,h0,i1,b0l,hjl,n3]
 have sB := nx sA P6.r.l.bl.l (st0 [.u,rL 0,.u,dI j,rL B,.u,.u,.u] (bs++[jk e a])) (by
  apply e6;clear t u1 u2 u3;unfold Oh aX jk at*;obtain⟨s,l1,l2,c,b,u',q,ps',ew,ed⟩:=a.fH e;rw[ed]at e1 ⊢;unfold pQ at*;simp only[D.cells,Qd2,Qc2];generalize LK .i64 ps=l9,av.map (Ar.d e)=es at*;have i0:=idx e1;have i1:=idx h0;have fJ:j<es.length:=(aU e1)
  simp[P6,f1020,hj0,fJ,e1,i0,i1,h0,hg,hs,hB,b0l])
 have h0':=g0 [jk e a];have hB':(bs++[jk e a])[B]?=some (jk e a):=hg _;generalize bs++[jk e a]=L at*;clear hg hs g0 h0 b0l hB;have b0l:0<L.length:=(aU h0')
 have bBl:B<L.length:=(aU hB')
 have sC:Ex E1 P6.r.l.bl.r (st0 [.u,rL 0,.u,dI j,rL B,.u,.u,.u] L)
   (if (Bl a.f 0 (st-1)&&(Bl a.t 0 (st-1)&&(Bl a.l 0 sy&&di kk ps (e a.x)))) then(.norm,(st0 [.u,rL 0,.u,dI j,.u,.u,.u,dB false] L))
    else(.ret,(st0 (.u::.u::dB false::jP) L))):=by
  refine Ex.of (n:=N+300) ?_;clear sA sB e1;unfold jk aX at*;obtain⟨s,l1,l2,c,b,u',q,ps',ew,ed⟩:=a.fH e;rw[ed]at hB';rw[ew]at t;unfold pQ wD aV at*;simp only[D.cells,Qd2,Qc2]at hB';generalize Bl a.f 0 (st-1)=b1,Bl a.t 0 (st-1)=b2,Bl a.l 0 sy=b3,di kk ps (e a.x)=b4,av.map (Ar.d e)=es at*;have i1:=idx h0';have i2:=idx hB';cases b1
  ·simp[P6,f1020,t,u1,i1,i2,h0',hB',b0l,bBl,hdec]
  cases b2
  ·simp[P6,f1020,t,u1,u2,i1,i2,h0',hB',b0l,bBl,hdec]
  cases b3
  ·simp[P6,f1020,t,u1,u2,u3,i1,i2,h0',hB',b0l,bBl,hdec]
  cases b4<;>simp[P6,f1020,t,u1,u2,u3,i1,i2,h0',hB',b0l,bBl,hdec]
 have sD:Ex E1 P6.r.r (st0 [.u,rL 0,.u,dI j,.u,.u,.u,dB false] L) (.norm,Oh L (j+1) .u):=by
  apply e6;unfold Oh;rw[hk1];simp[P6,f1020,aS]
 cases hbb:(Bl a.f 0 (st-1)&&(Bl a.t 0 (st-1)&&(Bl a.l 0 sy&&di kk ps (e a.x)))) with
 | true =>
  rw[hbb,if_pos rfl]at sC;rw[if_pos rfl];exact sA.seq (Ex.seq (Ex.fE (sB.seq sC)) sD)
 | false =>
  rw[hbb,if_neg aC]at sC;rw[if_neg aC];exact sA.seq (Ex.dE (Ex.b_ (sB.seq sC)))
theorem Iq (kk:Int)(ps:List Int)(sy st:Int)(aK fin:List W)(av:List (Ar α))(hl:ps.length<=1000000)(h1:aK.length<=1000000)(h2:fin.length<=1000000)(h3:av.length<=1000000)
  (o1:∀ w ∈ aK,w.OK) (o2:∀ w ∈ fin,w.OK) (o3:∀ a ∈ av,(e a.x).OK) :
  Ca E1 1020 [.d (tV kk ps sy st aK fin e av)] (dB (Og kk ps sy st aK fin e av),none):=by
 rw[<-Xg];obtain⟨N1,t1⟩:=(Ca.gV (Ca.bQ (gy 0 kk ps))).any;have u2:=fun m=>yh m sy
 have u3:=fun m=>Xi m st 0 64
 obtain⟨N4,t4⟩:=(AU kk ps aK st hl h1 o1).any;obtain⟨N5,t5⟩:=(AU kk ps fin st hl h2 o2).any;obtain⟨K,hK⟩:∃ K,K=N1+N4+N5:=⟨_,rfl⟩
 replace t1:=t1 K ae;replace t4:=t4 K ae;replace t5:=t5 K ae;have n3:(av.map (Ar.d e)).length=av.length:=aC;have sA:Ex E1 f1020.body.l (st0 (.d (tV kk ps sy st aK fin e av)::qi) [])
   (.norm,(st0 (.u::rL 0::rM) [aX kk ps sy st (aK.map W.d) (fin.map W.d) (av.map (Ar.d e))])):=by
  apply e6;unfold tV iD aX;simp[f1020]
 have sB:Ex E1 f1020.body.r.l (st0 (.u::rL 0::rM) [aX kk ps sy st (aK.map W.d) (fin.map W.d) (av.map (Ar.d e))])
   (if zO kk ps sy st aK fin av.length
    then(.norm,(st0 [.u,rL 0,.u,.u,.u,dB false,.u,.u] [aX kk ps sy st (aK.map W.d) (fin.map W.d) (av.map (Ar.d e))]))
    else(.ret,(st0 (.u::.u::dB false::jP) [aX kk ps sy st (aK.map W.d) (fin.map W.d) (av.map (Ar.d e))]))):=by
  refine Ex.of (n:=K+300) ?_;unfold zO;clear sA o1 o2 o3 hK;generalize aM kk ps=b1,Bl sy 1 32=b2,Bl st 0 64=b3,wsB kk ps aK st=b4,wsB kk ps fin st=b5,av.length=m3 at*;unfold aX aV at*;generalize LK .i64 ps=l9,aK.map W.d=es1,fin.map W.d=es2,av.map (Ar.d e)=es3 at*;cases b1
  ·simp[f1020,t1]
  cases b2
  ·simp[f1020,t1,u2]
  cases b3
  ·simp[f1020,t1,u2,u3]
  cases b4
  ·simp[f1020,t1,u2,u3,t4]
  cases b5
  ·simp[f1020,t1,u2,u3,t4,t5]
  by_cases c3:(m3:Int)<=2048
  ·have c3':¬ 2048<(m3:Int):=ae;rw[decide_eq_true c3];clear c3;simp[f1020,t1,u2,u3,t4,t5,c3',n3]
  ·have c3':2048<(m3:Int):=ae;rw[decide_eq_false c3];clear c3;simp[f1020,t1,u2,u3,t4,t5,c3',n3]
 unfold Xf;cases hH:zO kk ps sy st aK fin av.length with
 | false =>
  rw[hH,if_neg aC]at sB;rw[Qz0];refine Ca.body (o:=.ret) rfl (k1020:E1.fn _=_) rfl (sA.seq (Ex.dE sB)) aC ?_;simp[show f1020.res=[.var 2] from rfl,show f1020.ref=false from rfl]
 | true =>
  rw[hH,if_pos rfl]at sB;rw[Qp1];have hst:0<=st/\st<=64:=by
   unfold zO Bl at hH;simp only[Qc1,decide_eq_true_eq]at hH;exact hH.2.2.1
  obtain⟨bx,hbx⟩:∃ bx,bx=aX kk ps sy st (aK.map W.d) (fin.map W.d) (av.map (Ar.d e)):=⟨_,rfl⟩
  have hloop:=Ex.xZ (E:=E1) (b:=P6) av (fun a => !qP kk ps sy st e a) (fun j=>Oh (bx::(av.take j).map (jk e)) j .u) (.exit 0,Oh (bx::av.map (jk e)) av.length (dB false))
   (fun j=>(.ret,(st0 (.u::.u::dB false::jP) (bx::(av.take (j+1)).map (jk e))))) aC aC
   (fun j a ha=>by
    have hr:=Xh kk ps sy st (aK.map W.d) (fin.map W.d) av hl h3 hst (bx::(av.take j).map (jk e)) (by rw[hbx];rfl) j a ha (o3 a (Qa2 ha));have htk:av.take (j+1)=av.take j++[a]:=by rw[Xa2,ha];rfl
    rw[htk,Qq2];cases hi:qP kk ps sy st e a with
    | true =>
     rw[hi,if_pos rfl]at hr;simpa using hr
    | false =>
     rw[hi,if_neg aC]at hr;simpa using hr)
   (by
    apply e6;rw[Qj1];clear sA sB t1 t4 t5 u2 u3;subst hbx;unfold Oh aX;rw[<-n3];generalize av.map (Ar.d e)=es,av.map (jk e)=bs,aK.map W.d=es1,fin.map W.d=es2 at*;simp[P6,f1020])
  rw[<-hbx]at sA sB;have sC:Ex E1 f1020.body.r.r.l.l (st0 [.u,rL 0,.u,.u,.u,dB false,.u,.u] [bx]) (.norm,Oh (bx::(av.take 0).map (jk e)) 0 .u):=by
   apply e6;unfold Oh;simp[f1020]
  cases hr:av.findIdx? (fun a => !qP kk ps sy st e a) with
  | none =>
   rw[hr]at hloop;have hall:av.all (qP kk ps sy st e)=true:=by
    rw[Xi1]at hr;rw[Qh0];intro a ha;have:=hr a ha;simpa using this
   rw[hall];have sD:Ex E1 f1020.body.r.r.r (Oh (bx::av.map (jk e)) av.length (dB false)) (.ret,(st0 (.u::.u::dB true::jP) (bx::av.map (jk e)))):=by
    apply e6;unfold Oh;generalize av.map (jk e)=bs at*;simp[f1020]
   refine Ca.body (o:=.ret) rfl (k1020:E1.fn _=_) rfl (sA.seq (sB.seq (Ex.seq (sC.seq (Ex.block hloop)) sD))) aC ?_;simp[show f1020.res=[.var 2] from rfl,show f1020.ref=false from rfl]
  | some j =>
   rw[hr]at hloop;have hall:av.all (qP kk ps sy st e)=false:=by
    rw[Qt0]at hr;obtain⟨hj,h4,_⟩:=hr;rw[List.all_eq_false];exact⟨_,Qi2 hj,by simpa using h4⟩
   rw[hall];refine Ca.body (o:=.ret) rfl (k1020:E1.fn _=_) rfl (sA.seq (sB.seq (Ex.dE (sC.seq (Ex.b_ hloop))))) aC ?_;simp[show f1020.res=[.var 2] from rfl,show f1020.ref=false from rfl]
end
end Fi.S
