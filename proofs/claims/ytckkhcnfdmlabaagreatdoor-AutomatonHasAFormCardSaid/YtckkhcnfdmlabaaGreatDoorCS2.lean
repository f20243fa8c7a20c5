import Derived.Test.YtckkhcnfdmlabaaGreatDoorCT
set_option linter.unusedVariables false
set_option linter.unusedSimpArgs false
noncomputable section
namespace Fi.S
open Go Fi
set_option maxHeartbeats 8000000
set_option maxRecDepth 10000
section
variable {α:Type} {e:α->W}
def wsB (kk:Int)(ps:List Int)(ws:List W)(n:Int):Bool:=decide ((ws.length:Int)=n)&&ws.all (bO kk ps)
def wwL:aG:=f1054.body.r.r.l.r.bl.lp
def wwS (kk:Int)(ps:List Int)(es:List D)(n:Int)(j:Nat)(t:FV):St:=(st0 [.u,.d (.s 8 es),.d (.v (.int .i64 n)),.r (.loc 0) 0,.u,.d (.v (.int .i64 j)),.u,t,.u] [aM kk ps])
theorem Ay (kk:Int)(ps:List Int)(ws:List W)(n:Int)(hl:ps.length<=1000000)(hn:ws.length<=1000000)(o1:∀ w ∈ ws,w.OK) :
  Ca E1 1054 [.d (aP kk ps),.d (.s 8 (ws.map W.d)),.d (.v (.int .i64 n))] (.d (.v (.bool (wsB kk ps ws n))),none):=by
 have n1:(ws.map W.d).length=ws.length:=by simp
 unfold wsB
 by_cases hlen:(ws.length:Int)=n
 ·subst hlen;rw[decide_eq_true rfl,Bool.true_and];have hloop:=Ex.mI (E:=E1) (b:=wwL) ws (bO kk ps) (fun j=>wwS kk ps (ws.map W.d) ws.length j .u) (.exit 0,wwS kk ps (ws.map W.d) ws.length ws.length (.d (.v (.bool false))))
   (.ret,(st0 [.u,.u,.u,.u,.d (.v (.bool false)),.u,.u,.u,.u] [aM kk ps])) (by simp) (by simp)
   (fun j x hx=>by
    have hj:j<ws.length:=(aW hx)
    obtain⟨N,t⟩:=(Ca.dW (o8 kk ps x hl (o1 x (List.mem_of_getElem? hx)))).get;have hj0:(0:Int)<=(j:Int):=by omega
    have aQ:ak .i64 ((j:Int)+1)=(j:Int)+1:=wrap_i64 (by omega);have hk1:((j+1:Nat):Int)=(j:Int)+1:=by omega
    have e1:(ws.map W.d)[j]?=some x.d:=by simp[hx]
    obtain⟨s,l1,l2,c,b,u,q,ps',ex⟩:=x.aF;simp only[ex]at t e1;have hjl:(j:Int)<(ws.length:Int):=by omega
    unfold wD aP at*;generalize ws.map W.d=es at*;have i0:=idx e1;have fM:j<es.length:=(aW e1)
    generalize bO kk ps x=r,(ws.length:Int)=m at*;refine Ex.of (n:=N+100) ?_;unfold wwS aM;generalize LK .i64 ps=l9 at*;cases r
    ·rw[if_neg (by simp)];simp -implicitDefEqProofs[wwL,f1054,t,hj0,fM,hjl,e1,i0]
    ·rw[if_pos rfl,hk1];simp -implicitDefEqProofs[wwL,f1054,t,hj0,fM,hjl,e1,i0,aQ])
   (by
    refine Ex.of (n:=60) ?_;unfold wwS aM;generalize ws.map W.d=es,LK .i64 ps=l9 at*;simp -implicitDefEqProofs[wwL,f1054])
  have sA:Ex E1 f1054.body.l (st0 [.d (aP kk ps),.d (.s 8 (ws.map W.d)),.d (.v (.int .i64 ws.length)),.u,.u,.u,.u,.u,.u] []) (.norm,(st0 [.u,.d (.s 8 (ws.map W.d)),.d (.v (.int .i64 ws.length)),.r (.loc 0) 0,.u,.u,.u,.u,.u] [aM kk ps])):=by
   refine Ex.of (n:=60) ?_;unfold aP aM;simp -implicitDefEqProofs[f1054]
  have sB:Ex E1 f1054.body.r.l (st0 [.u,.d (.s 8 (ws.map W.d)),.d (.v (.int .i64 ws.length)),.r (.loc 0) 0,.u,.u,.u,.u,.u] [aM kk ps]) (.norm,(st0 [.u,.d (.s 8 (ws.map W.d)),.d (.v (.int .i64 ws.length)),.r (.loc 0) 0,.u,.u,.d (.v (.bool false)),.u,.u] [aM kk ps])):=by
   refine Ex.of (n:=60) ?_;clear hloop sA;rw[<-n1];generalize ws.map W.d=es at*;simp -implicitDefEqProofs[f1054]
  have sC:Ex E1 f1054.body.r.r.l.l (st0 [.u,.d (.s 8 (ws.map W.d)),.d (.v (.int .i64 ws.length)),.r (.loc 0) 0,.u,.u,.d (.v (.bool false)),.u,.u] [aM kk ps]) (.norm,(st0 [.u,.d (.s 8 (ws.map W.d)),.d (.v (.int .i64 ws.length)),.r (.loc 0) 0,.u,.d (.v (.int .i64 0)),.u,.u,.u] [aM kk ps])):=by
   refine Ex.of (n:=60) ?_;simp -implicitDefEqProofs[f1054]
  cases hr:ws.all (bO kk ps) with
  | true =>
   rw[hr,if_pos rfl]at hloop;have sD:Ex E1 f1054.body.r.r.r (st0 [.u,.d (.s 8 (ws.map W.d)),.d (.v (.int .i64 ws.length)),.r (.loc 0) 0,.u,.d (.v (.int .i64 ws.length)),.u,.d (.v (.bool false)),.u] [aM kk ps]) (.ret,(st0 [.u,.u,.u,.u,.d (.v (.bool true)),.u,.u,.u,.u] [aM kk ps])):=by
    refine Ex.of (n:=60) ?_;simp -implicitDefEqProofs[f1054]
   refine Ca.body (o:=.ret) rfl (k1054:E1.fn _=_) rfl (sA.seq (sB.seq (Ex.seq (sC.seq (Ex.block hloop)) sD))) (by simp) ?_;simp[show f1054.res=[.var 4] from rfl,show f1054.ref=false from rfl]
  | false =>
   rw[hr,if_neg (by simp)]at hloop;refine Ca.body (o:=.ret) rfl (k1054:E1.fn _=_) rfl (sA.seq (sB.seq (Ex.bM (sC.seq (Ex.bB hloop))))) (by simp) ?_;simp[show f1054.res=[.var 4] from rfl,show f1054.ref=false from rfl]
 ·have hne:((ws.length:Int) != n)=true:=by simpa using hlen
  rw[decide_eq_false hlen,Bool.false_and];refine Ca.bD (n:=100) ?_;rw[av rfl (k1054:E1.fn _=_) rfl];rw[<-n1]at hne;unfold aP;generalize ws.map W.d=es,LK .i64 ps=l9 at*;simp -implicitDefEqProofs[f1054,hne]
def zD (kk:Int)(ps:List Int)(sy st:Int)(aN fin:List W)(n:Nat):Bool :=
 aH kk ps&&(kZ sy 1 32&&(kZ st 0 64&&(wsB kk ps aN st&&(wsB kk ps fin st&&decide ((n:Int)<=2048)))))
def Vw (kk:Int)(ps:List Int)(sy st:Int)(aN fin:List W)(e:α->W)(ah:List (Ar α)):Bool:=zD kk ps sy st aN fin ah.length&&ah.all (nX kk ps sy st e)
theorem Vx (kk:Int)(ps:List Int)(sy st:Int)(aN fin:List W)(ah:List (Ar α)):Vw kk ps sy st aN fin e ah=rP kk ps sy st aN fin e ah:=by
 unfold Vw rP zD vD wsB kZ;generalize ah.all (nX kk ps sy st e)=b1;generalize aN.all (bO kk ps)=b2;generalize fin.all (bO kk ps)=b3;generalize aH kk ps=b4;rw[Bool.eq_iff_iff];simp only[Bool.and_eq_true,decide_eq_true_eq];grind
def Ou:aG:=f1020.body.r.r.l.r.bl.lp
def KS (bs:List ae)(j:Nat)(t:FV):St:=(st0 [.u,.r (.loc 0) 0,.u,.d (.v (.int .i64 j)),.u,.u,t,.u] bs)
def dn (e:α->W)(a:Ar α):ae:=.box ((a.d e).cells.map .d)
theorem Vy (kk:Int)(ps:List Int)(sy st:Int)(aN fin:List D)(ah:List (Ar α))(hl:ps.length<=1000000)(h3:ah.length<=1000000)(hst:0<=st/\st<=64)(bs:List ae)(h0:bs[0]?=some (aO kk ps sy st aN fin (ah.map (Ar.d e))))(j:Nat)(a:Ar α)(ha:ah[j]?=some a)(o:(e a.x).OK) :
  Ex E1 Ou (KS bs j .u) (if nX kk ps sy st e a then(.norm,KS (bs++[dn e a]) (j+1) .u) else(.ret,(st0 [.u,.u,.d (.v (.bool false)),.u,.u,.u,.u,.u] (bs++[dn e a])))):=by
 have hj:j<ah.length:=(aW ha)
 obtain⟨N,t⟩:=(Ca.dW (o8 kk ps (e a.x) hl o)).get;have u:=fun m x hi=>runIx m x 0 hi
 have hj0:(0:Int)<=(j:Int):=by omega
 have aQ:ak .i64 ((j:Int)+1)=(j:Int)+1:=wrap_i64 (by omega);have hdec:ak .i64 (st-1)=st-1:=wrap_i64 (by omega);have hk1:((j+1:Nat):Int)=(j:Int)+1:=by omega
 have e1:(ah.map (Ar.d e))[j]?=some (a.d e):=by simp[ha]
 have Hr:0<bs.length:=(aW h0)
 obtain⟨B,hB⟩:∃ B,bs.length=B:=⟨_,rfl⟩
 have hg:=fun(o:ae)=>kW (o:=o) hB
 have hs:=fun(o o':ae)=>kX (o:=o) (o':=o') hB
 have g0:∀ X,(bs++X)[0]?=some (aO kk ps sy st aN fin (ah.map (Ar.d e))):=fun X=>by rw[List.getElem?_append_left Hr];exact h0
 have n3:(ah.map (Ar.d e)).length=ah.length:=by simp
 have hb:nX kk ps sy st e a=(kZ a.f 0 (st-1)&&(kZ a.t 0 (st-1)&&(kZ a.l 0 sy&&bO kk ps (e a.x)))):=by
  unfold nX uL kZ;generalize bO kk ps (e a.x)=c;rw[Bool.eq_iff_iff];simp only[Bool.and_eq_true,decide_eq_true_eq];constructor
  ·rintro⟨⟨q1,q2⟩,⟨q3,q4⟩,q5,q6,q7⟩;exact⟨⟨q1,by omega⟩,⟨q3,by omega⟩,⟨q5,q6⟩,q7⟩
  ·rintro⟨⟨q1,q2⟩,⟨q3,q4⟩,⟨q5,q6⟩,q7⟩;exact⟨⟨q1,by omega⟩,⟨q3,by omega⟩,q5,q6,q7⟩
 rw[hb];have u1:=fun m=>u m a.f (st-1)
 have u2:=fun m=>u m a.t (st-1)
 have u3:=fun m=>u m a.l sy
 clear u hb;have sA:Ex E1 Ou.l (KS bs j .u) (.norm,KS bs j (.d (.v (.bool true)))):=by
  refine Ex.of (n:=60) ?_;clear t u1 u2 u3 hg hs;unfold KS aO at*;have hjl:(j:Int)<(ah.length:Int):=by omega
  generalize LK .i64 ps=l9,ah.map (Ar.d e)=es at*;have i1:=idx h0;simp -implicitDefEqProofs[Ou,f1020,h0,i1,Hr,hjl,n3]
 have sB:Ex E1 Ou.r.l.bl.l (KS bs j (.d (.v (.bool true)))) (.norm,(st0 [.u,.r (.loc 0) 0,.u,.d (.v (.int .i64 j)),.r (.loc B) 0,.u,.u,.u] (bs++[dn e a]))):=by
  refine Ex.of (n:=60) ?_;clear t u1 u2 u3;unfold KS aO dn at*;obtain⟨s,l1,l2,c,b,u',q,ps',ew,ed⟩:=a.dN e;rw[ed]at e1 ⊢;unfold nW at*;simp only[D.cells,List.map_cons,List.map_nil];generalize LK .i64 ps=l9,ah.map (Ar.d e)=es at*;have i0:=idx e1;have i1:=idx h0;have fM:j<es.length:=(aW e1)
  simp -implicitDefEqProofs[Ou,f1020,hj0,fM,e1,i0,i1,h0,hg,hs,hB,Hr]
 have h0':=g0 [dn e a];have hB':(bs++[dn e a])[B]?=some (dn e a):=hg _;generalize bs++[dn e a]=L at*;clear hg hs g0 h0 Hr hB;have Hr:0<L.length:=(aW h0')
 have bBl:B<L.length:=(aW hB')
 have sC:Ex E1 Ou.r.l.bl.r (st0 [.u,.r (.loc 0) 0,.u,.d (.v (.int .i64 j)),.r (.loc B) 0,.u,.u,.u] L)
   (if (kZ a.f 0 (st-1)&&(kZ a.t 0 (st-1)&&(kZ a.l 0 sy&&bO kk ps (e a.x)))) then(.norm,(st0 [.u,.r (.loc 0) 0,.u,.d (.v (.int .i64 j)),.u,.u,.u,.d (.v (.bool false))] L))
    else(.ret,(st0 [.u,.u,.d (.v (.bool false)),.u,.u,.u,.u,.u] L))):=by
  refine Ex.of (n:=N+300) ?_;clear sA sB e1;unfold dn aO at*;obtain⟨s,l1,l2,c,b,u',q,ps',ew,ed⟩:=a.dN e;rw[ed]at hB';rw[ew]at t;unfold nW wD aP at*;simp only[D.cells,List.map_cons,List.map_nil]at hB';generalize kZ a.f 0 (st-1)=b1,kZ a.t 0 (st-1)=b2,kZ a.l 0 sy=b3,bO kk ps (e a.x)=b4,LK .i64 ps=l9,ah.map (Ar.d e)=es at*;have i1:=idx h0';have i2:=idx hB';cases b1
  ·simp -implicitDefEqProofs[Ou,f1020,t,u1,i1,i2,h0',hB',Hr,bBl,hdec]
  cases b2
  ·simp -implicitDefEqProofs[Ou,f1020,t,u1,u2,i1,i2,h0',hB',Hr,bBl,hdec]
  cases b3
  ·simp -implicitDefEqProofs[Ou,f1020,t,u1,u2,u3,i1,i2,h0',hB',Hr,bBl,hdec]
  cases b4<;>simp -implicitDefEqProofs[Ou,f1020,t,u1,u2,u3,i1,i2,h0',hB',Hr,bBl,hdec]
 have sD:Ex E1 Ou.r.r (st0 [.u,.r (.loc 0) 0,.u,.d (.v (.int .i64 j)),.u,.u,.u,.d (.v (.bool false))] L) (.norm,KS L (j+1) .u):=by
  refine Ex.of (n:=60) ?_;unfold KS;rw[hk1];simp -implicitDefEqProofs[Ou,f1020,aQ]
 cases hbb:(kZ a.f 0 (st-1)&&(kZ a.t 0 (st-1)&&(kZ a.l 0 sy&&bO kk ps (e a.x)))) with
 | true =>
  rw[hbb,if_pos rfl]at sC;rw[if_pos rfl];exact sA.seq (Ex.seq (Ex.dK (sB.seq sC)) sD)
 | false =>
  rw[hbb,if_neg (by simp)]at sC;rw[if_neg (by simp)];exact sA.seq (Ex.bM (Ex.bB (sB.seq sC)))
theorem qO (kk:Int)(ps:List Int)(sy st:Int)(aN fin:List W)(ah:List (Ar α))(hl:ps.length<=1000000)(h1:aN.length<=1000000)(h2:fin.length<=1000000)(h3:ah.length<=1000000)
  (o1:∀ w ∈ aN,w.OK) (o2:∀ w ∈ fin,w.OK) (o3:∀ a ∈ ah,(e a.x).OK) :
  Ca E1 1020 [.d (jf kk ps sy st aN fin e ah)] (.d (.v (.bool (rP kk ps sy st aN fin e ah))),none):=by
 rw[<-Vx];obtain⟨N1,t1⟩:=(Ca.dW (Ca.bD (dB 0 kk ps))).any;have u2:=fun m=>mK m sy
 have u3:=fun m=>runIx m st 0 64
 obtain⟨N4,t4⟩:=(Ay kk ps aN st hl h1 o1).any;obtain⟨N5,t5⟩:=(Ay kk ps fin st hl h2 o2).any;obtain⟨K,hK⟩:∃ K,K=N1+N4+N5:=⟨_,rfl⟩
 replace t1:=t1 K (by omega);replace t4:=t4 K (by omega);replace t5:=t5 K (by omega);have n3:(ah.map (Ar.d e)).length=ah.length:=by simp
 have sA:Ex E1 f1020.body.l (st0 [.d (jf kk ps sy st aN fin e ah),.u,.u,.u,.u,.u,.u,.u] [])
   (.norm,(st0 [.u,.r (.loc 0) 0,.u,.u,.u,.u,.u,.u] [aO kk ps sy st (aN.map W.d) (fin.map W.d) (ah.map (Ar.d e))])):=by
  refine Ex.of (n:=60) ?_;unfold jf fA aO;simp -implicitDefEqProofs[f1020]
 have sB:Ex E1 f1020.body.r.l (st0 [.u,.r (.loc 0) 0,.u,.u,.u,.u,.u,.u] [aO kk ps sy st (aN.map W.d) (fin.map W.d) (ah.map (Ar.d e))])
   (if zD kk ps sy st aN fin ah.length
    then(.norm,(st0 [.u,.r (.loc 0) 0,.u,.u,.u,.d (.v (.bool false)),.u,.u] [aO kk ps sy st (aN.map W.d) (fin.map W.d) (ah.map (Ar.d e))]))
    else(.ret,(st0 [.u,.u,.d (.v (.bool false)),.u,.u,.u,.u,.u] [aO kk ps sy st (aN.map W.d) (fin.map W.d) (ah.map (Ar.d e))]))):=by
  refine Ex.of (n:=K+300) ?_;unfold zD;clear sA o1 o2 o3 hK;generalize aH kk ps=b1,kZ sy 1 32=b2,kZ st 0 64=b3,wsB kk ps aN st=b4,wsB kk ps fin st=b5,ah.length=m3 at*;unfold aO aP at*;generalize LK .i64 ps=l9,aN.map W.d=es1,fin.map W.d=es2,ah.map (Ar.d e)=Xp at*;cases b1
  ·simp -implicitDefEqProofs[f1020,t1]
  cases b2
  ·simp -implicitDefEqProofs[f1020,t1,u2]
  cases b3
  ·simp -implicitDefEqProofs[f1020,t1,u2,u3]
  cases b4
  ·simp -implicitDefEqProofs[f1020,t1,u2,u3,t4]
  cases b5
  ·simp -implicitDefEqProofs[f1020,t1,u2,u3,t4,t5]
  by_cases c3:(m3:Int)<=2048
  ·have c3':¬ 2048<(m3:Int):=by omega
   rw[decide_eq_true c3];clear c3;simp -implicitDefEqProofs[f1020,t1,u2,u3,t4,t5,c3',n3]
  ·have c3':2048<(m3:Int):=by omega
   rw[decide_eq_false c3];clear c3;simp -implicitDefEqProofs[f1020,t1,u2,u3,t4,t5,c3',n3]
 unfold Vw;cases hH:zD kk ps sy st aN fin ah.length with
 | false =>
  rw[hH,if_neg (by simp)]at sB;rw[Bool.false_and];refine Ca.body (o:=.ret) rfl (k1020:E1.fn _=_) rfl (sA.seq (Ex.bM sB)) (by simp) ?_;simp[show f1020.res=[.var 2] from rfl,show f1020.ref=false from rfl]
 | true =>
  rw[hH,if_pos rfl]at sB;rw[Bool.true_and];have hst:0<=st/\st<=64:=by
   unfold zD kZ at hH;simp only[Bool.and_eq_true,decide_eq_true_eq]at hH;exact hH.2.2.1
  obtain⟨bx,hbx⟩:∃ bx,bx=aO kk ps sy st (aN.map W.d) (fin.map W.d) (ah.map (Ar.d e)):=⟨_,rfl⟩
  have hloop:=Ex.tK (E:=E1) (b:=Ou) ah (fun a => !nX kk ps sy st e a) (fun j=>KS (bx::(ah.take j).map (dn e)) j .u) (.exit 0,KS (bx::ah.map (dn e)) ah.length (.d (.v (.bool false))))
   (fun j=>(.ret,(st0 [.u,.u,.d (.v (.bool false)),.u,.u,.u,.u,.u] (bx::(ah.take (j+1)).map (dn e))))) (by simp) (by simp)
   (fun j a ha=>by
    have hr:=Vy kk ps sy st (aN.map W.d) (fin.map W.d) ah hl h3 hst (bx::(ah.take j).map (dn e)) (by rw[hbx];rfl) j a ha (o3 a (List.mem_of_getElem? ha));have htk:ah.take (j+1)=ah.take j++[a]:=by rw[List.take_add_one,ha];rfl
    rw[htk,List.map_append];cases hi:nX kk ps sy st e a with
    | true =>
     rw[hi,if_pos rfl]at hr;simpa using hr
    | false =>
     rw[hi,if_neg (by simp)]at hr;simpa using hr)
   (by
    refine Ex.of (n:=60) ?_;rw[List.take_length];clear sA sB t1 t4 t5 u2 u3;subst hbx;unfold KS aO;rw[<-n3];generalize ah.map (Ar.d e)=es,ah.map (dn e)=bs,aN.map W.d=es1,fin.map W.d=es2,LK .i64 ps=l9 at*;simp -implicitDefEqProofs[Ou,f1020])
  rw[<-hbx]at sA sB;have sC:Ex E1 f1020.body.r.r.l.l (st0 [.u,.r (.loc 0) 0,.u,.u,.u,.d (.v (.bool false)),.u,.u] [bx]) (.norm,KS (bx::(ah.take 0).map (dn e)) 0 .u):=by
   refine Ex.of (n:=60) ?_;unfold KS;simp -implicitDefEqProofs[f1020]
  cases hr:ah.findIdx? (fun a => !nX kk ps sy st e a) with
  | none =>
   rw[hr]at hloop;have hall:ah.all (nX kk ps sy st e)=true:=by
    rw[List.findIdx?_eq_none_iff]at hr;rw[List.all_eq_true];intro a ha;have:=hr a ha;simpa using this
   rw[hall];have sD:Ex E1 f1020.body.r.r.r (KS (bx::ah.map (dn e)) ah.length (.d (.v (.bool false)))) (.ret,(st0 [.u,.u,.d (.v (.bool true)),.u,.u,.u,.u,.u] (bx::ah.map (dn e)))):=by
    refine Ex.of (n:=60) ?_;unfold KS;generalize ah.map (dn e)=bs at*;simp -implicitDefEqProofs[f1020]
   refine Ca.body (o:=.ret) rfl (k1020:E1.fn _=_) rfl (sA.seq (sB.seq (Ex.seq (sC.seq (Ex.block hloop)) sD))) (by simp) ?_;simp[show f1020.res=[.var 2] from rfl,show f1020.ref=false from rfl]
  | some j =>
   rw[hr]at hloop;have hall:ah.all (nX kk ps sy st e)=false:=by
    rw[List.findIdx?_eq_some_iff_getElem]at hr;obtain⟨hj,h4,_⟩:=hr;rw[List.all_eq_false];exact⟨_,List.getElem_mem hj,by simpa using h4⟩
   rw[hall];refine Ca.body (o:=.ret) rfl (k1020:E1.fn _=_) rfl (sA.seq (sB.seq (Ex.bM (sC.seq (Ex.bB hloop))))) (by simp) ?_;simp[show f1020.res=[.var 2] from rfl,show f1020.ref=false from rfl]
theorem DK (kk:Int)(ps:List Int)(sy st:Int)(aN fin ah:List D)(h:Ca E1 1020 [.d (fA kk ps sy st aN fin ah)] (.d (.v (.bool false)),none)) :
  Ca E1 1025 [.d (fA kk ps sy st aN fin ah)] (.d (.t [fA 0 [] 0 0 [] [] [],.v (.int .i64 4)]),none):=by
 obtain⟨N,t⟩:=h.get;refine Ca.bD (n:=N+200) ?_;rw[av rfl (k1025:E1.fn _=_) rfl];unfold fA at*;have e0:LK .i64 []=[]:=rfl;rw[e0];generalize LK .i64 ps=l9 at*;simp -implicitDefEqProofs[f1025,t,gZ]
theorem EJ (kk:Int)(ps:List Int)(sy st:Int)(aN fin ah:List D)(A:D)(hA:∃ a b c d f g h,A=fA a b c d f g h)(h:Ca E1 1020 [.d (fA kk ps sy st aN fin ah)] (.d (.v (.bool true)),none))(hF:Ca E1 1044 [.d (fA kk ps sy st aN fin ah)] (.d A,none)) :
  Ca E1 1025 [.d (fA kk ps sy st aN fin ah)] (.d (.t [A,.v (.int .i64 0)]),none):=by
 obtain⟨K,hK,t1,t2⟩:=(h.j hF.any).at 0;obtain⟨qa,qb,qc,qd,qf,qg,qh,rfl⟩:=hA;refine Ca.bD (n:=K+200) ?_;rw[av rfl (k1025:E1.fn _=_) rfl];clear hF h;unfold fA at*;generalize LK .i64 ps=l9,LK .i64 qb=l8 at*;simp -implicitDefEqProofs[f1025,t1,t2,gZ]
end
end Fi.S
