import Derived.Test.YtbbogkfadofneaaGreatDoorCT
set_option linter.unusedVariables false
set_option linter.unusedSimpArgs false
noncomputable section
namespace Fi.S
open Go Fi
set_option maxHeartbeats 8000000
set_option maxRecDepth 10000
section
variable {α:Type} {e:α->W}
def wsB (kk:Int)(ps:List Int)(ws:List W)(n:Int):Bool:=decide ((ws.length:Int)=n)&&ws.all (cZ kk ps)
def wwL:aF:=f1054.body.r.r.l.r.bl.lp
def wwS (kk:Int)(ps:List Int)(es:List D)(n:Int)(j:Nat)(t:FV):St:=(st0 [.u,.d (.s 8 es),dI n,rL 0,.u,dI j,.u,t,.u] [aG kk ps])
theorem zM (kk:Int)(ps:List Int)(ws:List W)(n:Int)(hl:ps.length<=1000000)(hn:ws.length<=1000000)(o1:∀ w ∈ ws,w.OK) :
  Ca E1 1054 [.d (aT kk ps),.d (.s 8 (ws.map W.d)),dI n] (dB (wsB kk ps ws n),none):=by
 have n1:(ws.map W.d).length=ws.length:=aA;unfold wsB
 by_cases hlen:(ws.length:Int)=n
 ·subst hlen;rw[decide_eq_true rfl,Qr2];have hloop:=Ex.Ze (E:=E1) (b:=wwL) ws (cZ kk ps) (fun j=>wwS kk ps (ws.map W.d) ws.length j .u) (.exit 0,wwS kk ps (ws.map W.d) ws.length ws.length (dB false))
   (.ret,(st0 (.u::.u::.u::.u::dB false::vR) [aG kk ps])) aA aA
   (fun j x hx=>by
    have hj:j<ws.length:=(bq hx)
    obtain⟨N,t⟩:=(Ca.ib (tF kk ps x hl (o1 x (Qa2 hx)))).get;have hj0:(0:Int)<=(j:Int):=ae;have aR:ai .i64 ((j:Int)+1)=(j:Int)+1:=wrap_i64 ae;have hk1:((j+1:Nat):Int)=(j:Int)+1:=ae;have e1:(ws.map W.d)[j]?=some x.d:=by simp[hx]
    obtain⟨s,l1,l2,c,b,u,q,ps',ex⟩:=x.aN;simp only[ex]at t e1;have hjl:(j:Int)<(ws.length:Int):=ae;unfold wD aT at*;generalize ws.map W.d=es at*;have i0:=idx e1;have jl:j<es.length:=(bq e1)
    generalize cZ kk ps x=r,(ws.length:Int)=m at*;refine Ex.of (n:=N+100) ?_;unfold wwS aG;generalize LK .i64 ps=l9 at*;cases r
    ·rw[if_neg aA];simp[wwL,f1054,t,hj0,jl,hjl,e1,i0]
    ·rw[if_pos rfl,hk1];simp[wwL,f1054,t,hj0,jl,hjl,e1,i0,aR])
   (by
    apply e6;unfold wwS aG;generalize ws.map W.d=es,LK .i64 ps=l9 at*;simp[wwL,f1054])
  have sA:Ex E1 f1054.body.l (st0 (.d (aT kk ps)::.d (.s 8 (ws.map W.d))::dI ws.length::qO) []) (.norm,(st0 (.u::.d (.s 8 (ws.map W.d))::dI ws.length::rL 0::lI) [aG kk ps])):=by
   apply e6;unfold aT aG;simp[f1054]
  have sB := nx sA f1054.body.r.l (st0 [.u,.d (.s 8 (ws.map W.d)),dI ws.length,rL 0,.u,.u,dB false,.u,.u] [aG kk ps]) (by
   apply e6;clear hloop sA;rw[<-n1];generalize ws.map W.d=es at*;simp[f1054])
  have sC := nx sB f1054.body.r.r.l.l (st0 [.u,.d (.s 8 (ws.map W.d)),dI ws.length,rL 0,.u,dI 0,.u,.u,.u] [aG kk ps]) (by
   apply e6;simp[f1054])
  cases hr:ws.all (cZ kk ps) with
  | true =>
   rw[hr,if_pos rfl]at hloop;have sD:Ex E1 f1054.body.r.r.r (st0 [.u,.d (.s 8 (ws.map W.d)),dI ws.length,rL 0,.u,dI ws.length,.u,dB false,.u] [aG kk ps]) (.ret,(st0 (.u::.u::.u::.u::dB true::vR) [aG kk ps])):=by
    apply e6;simp[f1054]
   refine Ca.body (o:=.ret) rfl (k1054:E1.fn _=_) rfl (sA.seq (sB.seq (Ex.seq (sC.seq (Ex.block hloop)) sD))) aA ?_;simp[show f1054.res=[.var 4] from rfl,show f1054.ref=false from rfl]
  | false =>
   rw[hr,if_neg aA]at hloop;refine Ca.body (o:=.ret) rfl (k1054:E1.fn _=_) rfl (sA.seq (sB.seq (Ex.dX (sC.seq (Ex.dA hloop))))) aA ?_;simp[show f1054.res=[.var 4] from rfl,show f1054.ref=false from rfl]
 ·have hne:((ws.length:Int) != n)=true:=by simpa using hlen
  rw[decide_eq_false hlen,Q31];refine Ca.bP (n:=100) ?_;rw[av rfl (k1054:E1.fn _=_) rfl];rw[<-n1]at hne;unfold aT;generalize ws.map W.d=es at*;simp[f1054,hne]
def yL (kk:Int)(ps:List Int)(sy st:Int)(bJ fin:List W)(n:Nat):Bool :=
 aK kk ps&&(Ac sy 1 32&&(Ac st 0 64&&(wsB kk ps bJ st&&(wsB kk ps fin st&&decide ((n:Int)<=2048)))))
def Vz (kk:Int)(ps:List Int)(sy st:Int)(bJ fin:List W)(e:α->W)(aI:List (Ar α)):Bool:=yL kk ps sy st bJ fin aI.length&&aI.all (pW kk ps sy st e)
theorem VA (kk:Int)(ps:List Int)(sy st:Int)(bJ fin:List W)(aI:List (Ar α)):Vz kk ps sy st bJ fin e aI=MJ kk ps sy st bJ fin e aI:=by
 unfold Vz MJ yL Ow wsB Ac;generalize aI.all (pW kk ps sy st e)=b1;generalize bJ.all (cZ kk ps)=b2;generalize fin.all (cZ kk ps)=b3;generalize aK kk ps=b4;rw[Bool.eq_iff_iff];simp only[Qb1,decide_eq_true_eq];grind
def Oy:aF:=f1020.body.r.r.l.r.bl.lp
def MK (bs:List ah)(j:Nat)(t:FV):St:=(st0 [.u,rL 0,.u,dI j,.u,.u,t,.u] bs)
def jA (e:α->W)(a:Ar α):ah:=.box ((a.d e).cells.map .d)
theorem VB (kk:Int)(ps:List Int)(sy st:Int)(bJ fin:List D)(aI:List (Ar α))(hl:ps.length<=1000000)(h3:aI.length<=1000000)(hst:0<=st/\st<=64)(bs:List ah)(h0:bs[0]?=some (bO kk ps sy st bJ fin (aI.map (Ar.d e))))(j:Nat)(a:Ar α)(ha:aI[j]?=some a)(o:(e a.x).OK) :
  Ex E1 Oy (MK bs j .u) (if pW kk ps sy st e a then(.norm,MK (bs++[jA e a]) (j+1) .u) else(.ret,(st0 (.u::.u::dB false::lI) (bs++[jA e a])))):=by
 have hj:j<aI.length:=(bq ha)
 obtain⟨N,t⟩:=(Ca.ib (tF kk ps (e a.x) hl o)).get;have u:=fun m x hi=>VC m x 0 hi
 have hj0:(0:Int)<=(j:Int):=ae;have aR:ai .i64 ((j:Int)+1)=(j:Int)+1:=wrap_i64 ae;have hdec:ai .i64 (st-1)=st-1:=wrap_i64 ae;have hk1:((j+1:Nat):Int)=(j:Int)+1:=ae;have e1:(aI.map (Ar.d e))[j]?=some (a.d e):=by simp[ha]
 have Zw:0<bs.length:=(bq h0)
 obtain⟨B,hB⟩:∃ B,bs.length=B:=⟨_,rfl⟩
 have hg:=fun(o:ah)=>tu (o:=o) hB
 have hs:=fun(o o':ah)=>tC (o:=o) (o':=o') hB
 have g0:∀ X,(bs++X)[0]?=some (bO kk ps sy st bJ fin (aI.map (Ar.d e))):=fun X=>by rw[Qa0 Zw];exact h0
 have n3:(aI.map (Ar.d e)).length=aI.length:=aA;have hb:pW kk ps sy st e a=(Ac a.f 0 (st-1)&&(Ac a.t 0 (st-1)&&(Ac a.l 0 sy&&cZ kk ps (e a.x)))):=by
  unfold pW Zv Ac;generalize cZ kk ps (e a.x)=c;rw[Bool.eq_iff_iff];simp only[Qb1,decide_eq_true_eq];constructor
  ·rintro⟨⟨q1,q2⟩,⟨q3,q4⟩,q5,q6,q7⟩;exact⟨⟨q1,ae⟩,⟨q3,ae⟩,⟨q5,q6⟩,q7⟩
  ·rintro⟨⟨q1,q2⟩,⟨q3,q4⟩,⟨q5,q6⟩,q7⟩;exact⟨⟨q1,ae⟩,⟨q3,ae⟩,q5,q6,q7⟩
 rw[hb];have u1:=fun m=>u m a.f (st-1)
 have u2:=fun m=>u m a.t (st-1)
 have u3:=fun m=>u m a.l sy
 clear u hb;have sA:Ex E1 Oy.l (MK bs j .u) (.norm,MK bs j (dB true)):=by
  apply e6;clear t u1 u2 u3 hg hs;unfold MK bO at*;have hjl:(j:Int)<(aI.length:Int):=ae;generalize LK .i64 ps=l9,aI.map (Ar.d e)=es at*;have i1:=idx h0;simp[Oy,f1020,h0,i1,Zw,hjl,n3]
 have sB := nx sA Oy.r.l.bl.l (st0 [.u,rL 0,.u,dI j,rL B,.u,.u,.u] (bs++[jA e a])) (by
  apply e6;clear t u1 u2 u3;unfold MK bO jA at*;obtain⟨s,l1,l2,c,b,u',q,ps',ew,ed⟩:=a.gD e;rw[ed]at e1 ⊢;unfold tX at*;simp only[D.cells,Qe2,Qc1];generalize LK .i64 ps=l9,aI.map (Ar.d e)=es at*;have i0:=idx e1;have i1:=idx h0;have jl:j<es.length:=(bq e1)
  simp[Oy,f1020,hj0,jl,e1,i0,i1,h0,hg,hs,hB,Zw])
 have h0':=g0 [jA e a];have hB':(bs++[jA e a])[B]?=some (jA e a):=hg _;generalize bs++[jA e a]=L at*;clear hg hs g0 h0 Zw hB;have Zw:0<L.length:=(bq h0')
 have bBl:B<L.length:=(bq hB')
 have sC:Ex E1 Oy.r.l.bl.r (st0 [.u,rL 0,.u,dI j,rL B,.u,.u,.u] L)
   (if (Ac a.f 0 (st-1)&&(Ac a.t 0 (st-1)&&(Ac a.l 0 sy&&cZ kk ps (e a.x)))) then(.norm,(st0 [.u,rL 0,.u,dI j,.u,.u,.u,dB false] L))
    else(.ret,(st0 (.u::.u::dB false::lI) L))):=by
  refine Ex.of (n:=N+300) ?_;clear sA sB e1;unfold jA bO at*;obtain⟨s,l1,l2,c,b,u',q,ps',ew,ed⟩:=a.gD e;rw[ed]at hB';rw[ew]at t;unfold tX wD aT at*;simp only[D.cells,Qe2,Qc1]at hB';generalize Ac a.f 0 (st-1)=b1,Ac a.t 0 (st-1)=b2,Ac a.l 0 sy=b3,cZ kk ps (e a.x)=b4,aI.map (Ar.d e)=es at*;have i1:=idx h0';have i2:=idx hB';cases b1
  ·simp[Oy,f1020,t,u1,i1,i2,h0',hB',Zw,bBl,hdec]
  cases b2
  ·simp[Oy,f1020,t,u1,u2,i1,i2,h0',hB',Zw,bBl,hdec]
  cases b3
  ·simp[Oy,f1020,t,u1,u2,u3,i1,i2,h0',hB',Zw,bBl,hdec]
  cases b4<;>simp[Oy,f1020,t,u1,u2,u3,i1,i2,h0',hB',Zw,bBl,hdec]
 have sD:Ex E1 Oy.r.r (st0 [.u,rL 0,.u,dI j,.u,.u,.u,dB false] L) (.norm,MK L (j+1) .u):=by
  apply e6;unfold MK;rw[hk1];simp[Oy,f1020,aR]
 cases hbb:(Ac a.f 0 (st-1)&&(Ac a.t 0 (st-1)&&(Ac a.l 0 sy&&cZ kk ps (e a.x)))) with
 | true =>
  rw[hbb,if_pos rfl]at sC;rw[if_pos rfl];exact sA.seq (Ex.seq (Ex.gp (sB.seq sC)) sD)
 | false =>
  rw[hbb,if_neg aA]at sC;rw[if_neg aA];exact sA.seq (Ex.dX (Ex.dA (sB.seq sC)))
theorem GU (kk:Int)(ps:List Int)(sy st:Int)(bJ fin:List W)(aI:List (Ar α))(hl:ps.length<=1000000)(h1:bJ.length<=1000000)(h2:fin.length<=1000000)(h3:aI.length<=1000000)
  (o1:∀ w ∈ bJ,w.OK) (o2:∀ w ∈ fin,w.OK) (o3:∀ a ∈ aI,(e a.x).OK) :
  Ca E1 1020 [.d (Fp kk ps sy st bJ fin e aI)] (dB (MJ kk ps sy st bJ fin e aI),none):=by
 rw[<-VA];obtain⟨N1,t1⟩:=(Ca.ib (Ca.bP (fU 0 kk ps))).any;have u2:=fun m=>wY m sy
 have u3:=fun m=>VC m st 0 64
 obtain⟨N4,t4⟩:=(zM kk ps bJ st hl h1 o1).any;obtain⟨N5,t5⟩:=(zM kk ps fin st hl h2 o2).any;obtain⟨K,hK⟩:∃ K,K=N1+N4+N5:=⟨_,rfl⟩
 replace t1:=t1 K ae;replace t4:=t4 K ae;replace t5:=t5 K ae;have n3:(aI.map (Ar.d e)).length=aI.length:=aA;have sA:Ex E1 f1020.body.l (st0 (.d (Fp kk ps sy st bJ fin e aI)::sO) [])
   (.norm,(st0 (.u::rL 0::qO) [bO kk ps sy st (bJ.map W.d) (fin.map W.d) (aI.map (Ar.d e))])):=by
  apply e6;unfold Fp mG bO;simp[f1020]
 have sB:Ex E1 f1020.body.r.l (st0 (.u::rL 0::qO) [bO kk ps sy st (bJ.map W.d) (fin.map W.d) (aI.map (Ar.d e))])
   (if yL kk ps sy st bJ fin aI.length
    then(.norm,(st0 [.u,rL 0,.u,.u,.u,dB false,.u,.u] [bO kk ps sy st (bJ.map W.d) (fin.map W.d) (aI.map (Ar.d e))]))
    else(.ret,(st0 (.u::.u::dB false::lI) [bO kk ps sy st (bJ.map W.d) (fin.map W.d) (aI.map (Ar.d e))]))):=by
  refine Ex.of (n:=K+300) ?_;unfold yL;clear sA o1 o2 o3 hK;generalize aK kk ps=b1,Ac sy 1 32=b2,Ac st 0 64=b3,wsB kk ps bJ st=b4,wsB kk ps fin st=b5,aI.length=m3 at*;unfold bO aT at*;generalize LK .i64 ps=l9,bJ.map W.d=es1,fin.map W.d=es2,aI.map (Ar.d e)=es3 at*;cases b1
  ·simp[f1020,t1]
  cases b2
  ·simp[f1020,t1,u2]
  cases b3
  ·simp[f1020,t1,u2,u3]
  cases b4
  ·simp[f1020,t1,u2,u3,t4]
  cases b5
  ·simp[f1020,t1,u2,u3,t4,t5]
  by_cases c3:(m3:Int)<=2048
  ·have c3':¬ 2048<(m3:Int):=ae;rw[decide_eq_true c3];clear c3;simp[f1020,t1,u2,u3,t4,t5,c3',n3]
  ·have c3':2048<(m3:Int):=ae;rw[decide_eq_false c3];clear c3;simp[f1020,t1,u2,u3,t4,t5,c3',n3]
 unfold Vz;cases hH:yL kk ps sy st bJ fin aI.length with
 | false =>
  rw[hH,if_neg aA]at sB;rw[Q31];refine Ca.body (o:=.ret) rfl (k1020:E1.fn _=_) rfl (sA.seq (Ex.dX sB)) aA ?_;simp[show f1020.res=[.var 2] from rfl,show f1020.ref=false from rfl]
 | true =>
  rw[hH,if_pos rfl]at sB;rw[Qr2];have hst:0<=st/\st<=64:=by
   unfold yL Ac at hH;simp only[Qb1,decide_eq_true_eq]at hH;exact hH.2.2.1
  obtain⟨bx,hbx⟩:∃ bx,bx=bO kk ps sy st (bJ.map W.d) (fin.map W.d) (aI.map (Ar.d e)):=⟨_,rfl⟩
  have hloop:=Ex.wW (E:=E1) (b:=Oy) aI (fun a => !pW kk ps sy st e a) (fun j=>MK (bx::(aI.take j).map (jA e)) j .u) (.exit 0,MK (bx::aI.map (jA e)) aI.length (dB false))
   (fun j=>(.ret,(st0 (.u::.u::dB false::lI) (bx::(aI.take (j+1)).map (jA e))))) aA aA
   (fun j a ha=>by
    have hr:=VB kk ps sy st (bJ.map W.d) (fin.map W.d) aI hl h3 hst (bx::(aI.take j).map (jA e)) (by rw[hbx];rfl) j a ha (o3 a (Qa2 ha));have htk:aI.take (j+1)=aI.take j++[a]:=by rw[Q82,ha];rfl
    rw[htk,Qp2];cases hi:pW kk ps sy st e a with
    | true =>
     rw[hi,if_pos rfl]at hr;simpa using hr
    | false =>
     rw[hi,if_neg aA]at hr;simpa using hr)
   (by
    apply e6;rw[Qn0];clear sA sB t1 t4 t5 u2 u3;subst hbx;unfold MK bO;rw[<-n3];generalize aI.map (Ar.d e)=es,aI.map (jA e)=bs,bJ.map W.d=es1,fin.map W.d=es2 at*;simp[Oy,f1020])
  rw[<-hbx]at sA sB;have sC:Ex E1 f1020.body.r.r.l.l (st0 [.u,rL 0,.u,.u,.u,dB false,.u,.u] [bx]) (.norm,MK (bx::(aI.take 0).map (jA e)) 0 .u):=by
   apply e6;unfold MK;simp[f1020]
  cases hr:aI.findIdx? (fun a => !pW kk ps sy st e a) with
  | none =>
   rw[hr]at hloop;have hall:aI.all (pW kk ps sy st e)=true:=by
    rw[Xf0]at hr;rw[Qh2];intro a ha;have:=hr a ha;simpa using this
   rw[hall];have sD:Ex E1 f1020.body.r.r.r (MK (bx::aI.map (jA e)) aI.length (dB false)) (.ret,(st0 (.u::.u::dB true::lI) (bx::aI.map (jA e)))):=by
    apply e6;unfold MK;generalize aI.map (jA e)=bs at*;simp[f1020]
   refine Ca.body (o:=.ret) rfl (k1020:E1.fn _=_) rfl (sA.seq (sB.seq (Ex.seq (sC.seq (Ex.block hloop)) sD))) aA ?_;simp[show f1020.res=[.var 2] from rfl,show f1020.ref=false from rfl]
  | some j =>
   rw[hr]at hloop;have hall:aI.all (pW kk ps sy st e)=false:=by
    rw[Qs0]at hr;obtain⟨hj,h4,_⟩:=hr;rw[List.all_eq_false];exact⟨_,Qi0 hj,by simpa using h4⟩
   rw[hall];refine Ca.body (o:=.ret) rfl (k1020:E1.fn _=_) rfl (sA.seq (sB.seq (Ex.dX (sC.seq (Ex.dA hloop))))) aA ?_;simp[show f1020.res=[.var 2] from rfl,show f1020.ref=false from rfl]
end
end Fi.S
