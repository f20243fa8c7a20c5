import Derived.Test.YthojoinggmjklaaGreatDoorCT
set_option linter.unusedVariables false
set_option linter.unusedSimpArgs false
noncomputable section
namespace Fi.S
open Go Fi
set_option maxHeartbeats 8000000
set_option maxRecDepth 10000
section
variable {α:Type} {e:α->W}
def Ze (kk:Int)(ps:List Int)(ws:List W)(n:Int):Bool:=decide ((ws.length:Int)=n)&&ws.all (bM kk ps)
def wwL:aD:=f1054.body.r.r.l.r.bl.lp
def wwS (kk:Int)(ps:List Int)(es:List D)(n:Int)(j:Nat)(t:FV):St:=(st0 [.u,.d (.s 8 es),.d (.v (.int .i64 n)),.r (.loc 0) 0,.u,.d (.v (.int .i64 j)),.u,t,.u] [aK kk ps])
theorem xL (kk:Int)(ps:List Int)(ws:List W)(n:Int)(hl:ps.length<=1000000)(hn:ws.length<=1000000)(o1:∀ w ∈ ws,w.OK) :
  Ca E1 1054 [.d (bG kk ps),.d (.s 8 (ws.map W.d)),.d (.v (.int .i64 n))] (.d (.v (.bool (Ze kk ps ws n))),none):=by
 have n1:(ws.map W.d).length=ws.length:=by simp
 unfold Ze
 by_cases hlen:(ws.length:Int)=n
 ·subst hlen;rw[decide_eq_true rfl,Bool.true_and];have hloop:=Ex.kL (E:=E1) (b:=wwL) ws (bM kk ps) (fun j=>wwS kk ps (ws.map W.d) ws.length j .u) (.exit 0,wwS kk ps (ws.map W.d) ws.length ws.length (.d (.v (.bool false))))
   (.ret,(st0 [.u,.u,.u,.u,.d (.v (.bool false)),.u,.u,.u,.u] [aK kk ps])) (by simp) (by simp)
   (fun j x hx=>by
    have hj:j<ws.length:=(aT hx)
    obtain⟨N,t⟩:=(Ca.iP (qR kk ps x hl (o1 x (List.mem_of_getElem? hx)))).get;have hj0:(0:Int)<=(j:Int):=by omega
    have aR:ak .i64 ((j:Int)+1)=(j:Int)+1:=wrap_i64 (by omega);have hk1:((j+1:Nat):Int)=(j:Int)+1:=by omega
    have e1:(ws.map W.d)[j]?=some x.d:=by simp[hx]
    obtain⟨s,l1,l2,c,b,u,q,ps',ex⟩:=x.aW;simp only[ex]at t e1;have hjl:(j:Int)<(ws.length:Int):=by omega
    unfold wD bG at*;generalize ws.map W.d=es at*;have i0:=idx e1;have eP:j<es.length:=(aT e1)
    generalize bM kk ps x=r,(ws.length:Int)=m at*;refine Ex.of (n:=N+100) ?_;unfold wwS aK;generalize LK .i64 ps=l9 at*;cases r
    ·rw[if_neg (by simp)];simp -implicitDefEqProofs[wwL,f1054,t,hj0,eP,hjl,e1,i0]
    ·rw[if_pos rfl,hk1];simp -implicitDefEqProofs[wwL,f1054,t,hj0,eP,hjl,e1,i0,aR])
   (by
    refine Ex.of (n:=60) ?_;unfold wwS aK;generalize ws.map W.d=es,LK .i64 ps=l9 at*;simp -implicitDefEqProofs[wwL,f1054])
  have sA:Ex E1 f1054.body.l (st0 [.d (bG kk ps),.d (.s 8 (ws.map W.d)),.d (.v (.int .i64 ws.length)),.u,.u,.u,.u,.u,.u] []) (.norm,(st0 [.u,.d (.s 8 (ws.map W.d)),.d (.v (.int .i64 ws.length)),.r (.loc 0) 0,.u,.u,.u,.u,.u] [aK kk ps])):=by
   refine Ex.of (n:=60) ?_;unfold bG aK;simp -implicitDefEqProofs[f1054]
  have sB:Ex E1 f1054.body.r.l (st0 [.u,.d (.s 8 (ws.map W.d)),.d (.v (.int .i64 ws.length)),.r (.loc 0) 0,.u,.u,.u,.u,.u] [aK kk ps]) (.norm,(st0 [.u,.d (.s 8 (ws.map W.d)),.d (.v (.int .i64 ws.length)),.r (.loc 0) 0,.u,.u,.d (.v (.bool false)),.u,.u] [aK kk ps])):=by
   refine Ex.of (n:=60) ?_;clear hloop sA;rw[<-n1];generalize ws.map W.d=es at*;simp -implicitDefEqProofs[f1054]
  have sC:Ex E1 f1054.body.r.r.l.l (st0 [.u,.d (.s 8 (ws.map W.d)),.d (.v (.int .i64 ws.length)),.r (.loc 0) 0,.u,.u,.d (.v (.bool false)),.u,.u] [aK kk ps]) (.norm,(st0 [.u,.d (.s 8 (ws.map W.d)),.d (.v (.int .i64 ws.length)),.r (.loc 0) 0,.u,.d (.v (.int .i64 0)),.u,.u,.u] [aK kk ps])):=by
   refine Ex.of (n:=60) ?_;simp -implicitDefEqProofs[f1054]
  cases hr:ws.all (bM kk ps) with
  | true =>
   rw[hr,if_pos rfl]at hloop;have sD:Ex E1 f1054.body.r.r.r (st0 [.u,.d (.s 8 (ws.map W.d)),.d (.v (.int .i64 ws.length)),.r (.loc 0) 0,.u,.d (.v (.int .i64 ws.length)),.u,.d (.v (.bool false)),.u] [aK kk ps]) (.ret,(st0 [.u,.u,.u,.u,.d (.v (.bool true)),.u,.u,.u,.u] [aK kk ps])):=by
    refine Ex.of (n:=60) ?_;simp -implicitDefEqProofs[f1054]
   refine Ca.body (o:=.ret) rfl (k1054:E1.fn _=_) rfl (sA.seq (sB.seq (Ex.seq (sC.seq (Ex.block hloop)) sD))) (by simp) ?_;simp[show f1054.res=[.var 4] from rfl,show f1054.ref=false from rfl]
  | false =>
   rw[hr,if_neg (by simp)]at hloop;refine Ca.body (o:=.ret) rfl (k1054:E1.fn _=_) rfl (sA.seq (sB.seq (Ex.bD (sC.seq (Ex.bf hloop))))) (by simp) ?_;simp[show f1054.res=[.var 4] from rfl,show f1054.ref=false from rfl]
 ·have hne:((ws.length:Int) != n)=true:=by simpa using hlen
  rw[decide_eq_false hlen,Bool.false_and];refine Ca.bO (n:=100) ?_;rw[aA rfl (k1054:E1.fn _=_) rfl];rw[<-n1]at hne;unfold bG;generalize ws.map W.d=es,LK .i64 ps=l9 at*;simp -implicitDefEqProofs[f1054,hne]
def wN (kk:Int)(ps:List Int)(sy st:Int)(aL fin:List W)(n:Nat):Bool :=
 aQ kk ps&&(yg sy 1 32&&(yg st 0 64&&(Ze kk ps aL st&&(Ze kk ps fin st&&decide ((n:Int)<=2048)))))
def Rm (kk:Int)(ps:List Int)(sy st:Int)(aL fin:List W)(e:α->W)(ah:List (Ar α)):Bool:=wN kk ps sy st aL fin ah.length&&ah.all (nR kk ps sy st e)
theorem Rn (kk:Int)(ps:List Int)(sy st:Int)(aL fin:List W)(ah:List (Ar α)):Rm kk ps sy st aL fin e ah=En kk ps sy st aL fin e ah:=by
 unfold Rm En wN GD Ze yg;generalize ah.all (nR kk ps sy st e)=b1;generalize aL.all (bM kk ps)=b2;generalize fin.all (bM kk ps)=b3;generalize aQ kk ps=b4;rw[Bool.eq_iff_iff];simp only[Bool.and_eq_true,decide_eq_true_eq];grind
def KQ:aD:=f1020.body.r.r.l.r.bl.lp
def HY (bs:List ae)(j:Nat)(t:FV):St:=(st0 [.u,.r (.loc 0) 0,.u,.d (.v (.int .i64 j)),.u,.u,t,.u] bs)
def cz (e:α->W)(a:Ar α):ae:=.box ((a.d e).cells.map .d)
theorem Ro (kk:Int)(ps:List Int)(sy st:Int)(aL fin:List D)(ah:List (Ar α))(hl:ps.length<=1000000)(h3:ah.length<=1000000)(hst:0<=st/\st<=64)(bs:List ae)(h0:bs[0]?=some (aM kk ps sy st aL fin (ah.map (Ar.d e))))(j:Nat)(a:Ar α)(ha:ah[j]?=some a)(o:(e a.x).OK) :
  Ex E1 KQ (HY bs j .u) (if nR kk ps sy st e a then(.norm,HY (bs++[cz e a]) (j+1) .u) else(.ret,(st0 [.u,.u,.d (.v (.bool false)),.u,.u,.u,.u,.u] (bs++[cz e a])))):=by
 have hj:j<ah.length:=(aT ha)
 obtain⟨N,t⟩:=(Ca.iP (qR kk ps (e a.x) hl o)).get;have u:=fun m x hi=>qy m x 0 hi
 have hj0:(0:Int)<=(j:Int):=by omega
 have aR:ak .i64 ((j:Int)+1)=(j:Int)+1:=wrap_i64 (by omega);have hdec:ak .i64 (st-1)=st-1:=wrap_i64 (by omega);have hk1:((j+1:Nat):Int)=(j:Int)+1:=by omega
 have e1:(ah.map (Ar.d e))[j]?=some (a.d e):=by simp[ha]
 have Ep:0<bs.length:=(aT h0)
 obtain⟨B,hB⟩:∃ B,bs.length=B:=⟨_,rfl⟩
 have hg:=fun(o:ae)=>jN (o:=o) hB
 have hs:=fun(o o':ae)=>jO (o:=o) (o':=o') hB
 have g0:∀ X,(bs++X)[0]?=some (aM kk ps sy st aL fin (ah.map (Ar.d e))):=fun X=>by rw[List.getElem?_append_left Ep];exact h0
 have n3:(ah.map (Ar.d e)).length=ah.length:=by simp
 have hb:nR kk ps sy st e a=(yg a.f 0 (st-1)&&(yg a.t 0 (st-1)&&(yg a.l 0 sy&&bM kk ps (e a.x)))):=by
  unfold nR rO yg;generalize bM kk ps (e a.x)=c;rw[Bool.eq_iff_iff];simp only[Bool.and_eq_true,decide_eq_true_eq];constructor
  ·rintro⟨⟨q1,q2⟩,⟨q3,q4⟩,q5,q6,q7⟩;exact⟨⟨q1,by omega⟩,⟨q3,by omega⟩,⟨q5,q6⟩,q7⟩
  ·rintro⟨⟨q1,q2⟩,⟨q3,q4⟩,⟨q5,q6⟩,q7⟩;exact⟨⟨q1,by omega⟩,⟨q3,by omega⟩,q5,q6,q7⟩
 rw[hb];have u1:=fun m=>u m a.f (st-1)
 have u2:=fun m=>u m a.t (st-1)
 have u3:=fun m=>u m a.l sy
 clear u hb;have sA:Ex E1 KQ.l (HY bs j .u) (.norm,HY bs j (.d (.v (.bool true)))):=by
  refine Ex.of (n:=60) ?_;clear t u1 u2 u3 hg hs;unfold HY aM at*;have hjl:(j:Int)<(ah.length:Int):=by omega
  generalize LK .i64 ps=l9,ah.map (Ar.d e)=es at*;have i1:=idx h0;simp -implicitDefEqProofs[KQ,f1020,h0,i1,Ep,hjl,n3]
 have sB:Ex E1 KQ.r.l.bl.l (HY bs j (.d (.v (.bool true)))) (.norm,(st0 [.u,.r (.loc 0) 0,.u,.d (.v (.int .i64 j)),.r (.loc B) 0,.u,.u,.u] (bs++[cz e a]))):=by
  refine Ex.of (n:=60) ?_;clear t u1 u2 u3;unfold HY aM cz at*;obtain⟨s,l1,l2,c,b,u',q,ps',ew,ed⟩:=a.dG e;rw[ed]at e1 ⊢;unfold mH at*;simp only[D.cells,List.map_cons,List.map_nil];generalize LK .i64 ps=l9,ah.map (Ar.d e)=es at*;have i0:=idx e1;have i1:=idx h0;have eP:j<es.length:=(aT e1)
  simp -implicitDefEqProofs[KQ,f1020,hj0,eP,e1,i0,i1,h0,hg,hs,hB,Ep]
 have h0':=g0 [cz e a];have hB':(bs++[cz e a])[B]?=some (cz e a):=hg _;generalize bs++[cz e a]=L at*;clear hg hs g0 h0 Ep hB;have Ep:0<L.length:=(aT h0')
 have bBl:B<L.length:=(aT hB')
 have sC:Ex E1 KQ.r.l.bl.r (st0 [.u,.r (.loc 0) 0,.u,.d (.v (.int .i64 j)),.r (.loc B) 0,.u,.u,.u] L)
   (if (yg a.f 0 (st-1)&&(yg a.t 0 (st-1)&&(yg a.l 0 sy&&bM kk ps (e a.x)))) then(.norm,(st0 [.u,.r (.loc 0) 0,.u,.d (.v (.int .i64 j)),.u,.u,.u,.d (.v (.bool false))] L))
    else(.ret,(st0 [.u,.u,.d (.v (.bool false)),.u,.u,.u,.u,.u] L))):=by
  refine Ex.of (n:=N+300) ?_;clear sA sB e1;unfold cz aM at*;obtain⟨s,l1,l2,c,b,u',q,ps',ew,ed⟩:=a.dG e;rw[ed]at hB';rw[ew]at t;unfold mH wD bG at*;simp only[D.cells,List.map_cons,List.map_nil]at hB';generalize yg a.f 0 (st-1)=b1,yg a.t 0 (st-1)=b2,yg a.l 0 sy=b3,bM kk ps (e a.x)=b4,LK .i64 ps=l9,ah.map (Ar.d e)=es at*;have i1:=idx h0';have i2:=idx hB';cases b1
  ·simp -implicitDefEqProofs[KQ,f1020,t,u1,i1,i2,h0',hB',Ep,bBl,hdec]
  cases b2
  ·simp -implicitDefEqProofs[KQ,f1020,t,u1,u2,i1,i2,h0',hB',Ep,bBl,hdec]
  cases b3
  ·simp -implicitDefEqProofs[KQ,f1020,t,u1,u2,u3,i1,i2,h0',hB',Ep,bBl,hdec]
  cases b4<;>simp -implicitDefEqProofs[KQ,f1020,t,u1,u2,u3,i1,i2,h0',hB',Ep,bBl,hdec]
 have sD:Ex E1 KQ.r.r (st0 [.u,.r (.loc 0) 0,.u,.d (.v (.int .i64 j)),.u,.u,.u,.d (.v (.bool false))] L) (.norm,HY L (j+1) .u):=by
  refine Ex.of (n:=60) ?_;unfold HY;rw[hk1];simp -implicitDefEqProofs[KQ,f1020,aR]
 cases hbb:(yg a.f 0 (st-1)&&(yg a.t 0 (st-1)&&(yg a.l 0 sy&&bM kk ps (e a.x)))) with
 | true =>
  rw[hbb,if_pos rfl]at sC;rw[if_pos rfl];exact sA.seq (Ex.seq (Ex.d9 (sB.seq sC)) sD)
 | false =>
  rw[hbb,if_neg (by simp)]at sC;rw[if_neg (by simp)];exact sA.seq (Ex.bD (Ex.bf (sB.seq sC)))
theorem Er (kk:Int)(ps:List Int)(sy st:Int)(aL fin:List W)(ah:List (Ar α))(hl:ps.length<=1000000)(h1:aL.length<=1000000)(h2:fin.length<=1000000)(h3:ah.length<=1000000)
  (o1:∀ w ∈ aL,w.OK) (o2:∀ w ∈ fin,w.OK) (o3:∀ a ∈ ah,(e a.x).OK) :
  Ca E1 1020 [.d (kX kk ps sy st aL fin e ah)] (.d (.v (.bool (En kk ps sy st aL fin e ah))),none):=by
 rw[<-Rn];obtain⟨N1,t1⟩:=(Ca.iP (Ca.bO (iK 0 kk ps))).any;have u2:=fun m=>Es m sy
 have u3:=fun m=>qy m st 0 64
 obtain⟨N4,t4⟩:=(xL kk ps aL st hl h1 o1).any;obtain⟨N5,t5⟩:=(xL kk ps fin st hl h2 o2).any;obtain⟨K,hK⟩:∃ K,K=N1+N4+N5:=⟨_,rfl⟩
 replace t1:=t1 K (by omega);replace t4:=t4 K (by omega);replace t5:=t5 K (by omega);have n3:(ah.map (Ar.d e)).length=ah.length:=by simp
 have sA:Ex E1 f1020.body.l (st0 [.d (kX kk ps sy st aL fin e ah),.u,.u,.u,.u,.u,.u,.u] [])
   (.norm,(st0 [.u,.r (.loc 0) 0,.u,.u,.u,.u,.u,.u] [aM kk ps sy st (aL.map W.d) (fin.map W.d) (ah.map (Ar.d e))])):=by
  refine Ex.of (n:=60) ?_;unfold kX q9 aM;simp -implicitDefEqProofs[f1020]
 have sB:Ex E1 f1020.body.r.l (st0 [.u,.r (.loc 0) 0,.u,.u,.u,.u,.u,.u] [aM kk ps sy st (aL.map W.d) (fin.map W.d) (ah.map (Ar.d e))])
   (if wN kk ps sy st aL fin ah.length
    then(.norm,(st0 [.u,.r (.loc 0) 0,.u,.u,.u,.d (.v (.bool false)),.u,.u] [aM kk ps sy st (aL.map W.d) (fin.map W.d) (ah.map (Ar.d e))]))
    else(.ret,(st0 [.u,.u,.d (.v (.bool false)),.u,.u,.u,.u,.u] [aM kk ps sy st (aL.map W.d) (fin.map W.d) (ah.map (Ar.d e))]))):=by
  refine Ex.of (n:=K+300) ?_;unfold wN;clear sA o1 o2 o3 hK;generalize aQ kk ps=b1,yg sy 1 32=b2,yg st 0 64=b3,Ze kk ps aL st=b4,Ze kk ps fin st=b5,ah.length=m3 at*;unfold aM bG at*;generalize LK .i64 ps=l9,aL.map W.d=es1,fin.map W.d=es2,ah.map (Ar.d e)=Vy at*;cases b1
  ·simp -implicitDefEqProofs[f1020,t1]
  cases b2
  ·simp -implicitDefEqProofs[f1020,t1,u2]
  cases b3
  ·simp -implicitDefEqProofs[f1020,t1,u2,u3]
  cases b4
  ·simp -implicitDefEqProofs[f1020,t1,u2,u3,t4]
  cases b5
  ·simp -implicitDefEqProofs[f1020,t1,u2,u3,t4,t5]
  by_cases c3:(m3:Int)<=2048
  ·have c3':¬ 2048<(m3:Int):=by omega
   rw[decide_eq_true c3];clear c3;simp -implicitDefEqProofs[f1020,t1,u2,u3,t4,t5,c3',n3]
  ·have c3':2048<(m3:Int):=by omega
   rw[decide_eq_false c3];clear c3;simp -implicitDefEqProofs[f1020,t1,u2,u3,t4,t5,c3',n3]
 unfold Rm;cases hH:wN kk ps sy st aL fin ah.length with
 | false =>
  rw[hH,if_neg (by simp)]at sB;rw[Bool.false_and];refine Ca.body (o:=.ret) rfl (k1020:E1.fn _=_) rfl (sA.seq (Ex.bD sB)) (by simp) ?_;simp[show f1020.res=[.var 2] from rfl,show f1020.ref=false from rfl]
 | true =>
  rw[hH,if_pos rfl]at sB;rw[Bool.true_and];have hst:0<=st/\st<=64:=by
   unfold wN yg at hH;simp only[Bool.and_eq_true,decide_eq_true_eq]at hH;exact hH.2.2.1
  obtain⟨bx,hbx⟩:∃ bx,bx=aM kk ps sy st (aL.map W.d) (fin.map W.d) (ah.map (Ar.d e)):=⟨_,rfl⟩
  have hloop:=Ex.pY (E:=E1) (b:=KQ) ah (fun a => !nR kk ps sy st e a) (fun j=>HY (bx::(ah.take j).map (cz e)) j .u) (.exit 0,HY (bx::ah.map (cz e)) ah.length (.d (.v (.bool false))))
   (fun j=>(.ret,(st0 [.u,.u,.d (.v (.bool false)),.u,.u,.u,.u,.u] (bx::(ah.take (j+1)).map (cz e))))) (by simp) (by simp)
   (fun j a ha=>by
    have hr:=Ro kk ps sy st (aL.map W.d) (fin.map W.d) ah hl h3 hst (bx::(ah.take j).map (cz e)) (by rw[hbx];rfl) j a ha (o3 a (List.mem_of_getElem? ha));have htk:ah.take (j+1)=ah.take j++[a]:=by rw[List.take_add_one,ha];rfl
    rw[htk,List.map_append];cases hi:nR kk ps sy st e a with
    | true =>
     rw[hi,if_pos rfl]at hr;simpa using hr
    | false =>
     rw[hi,if_neg (by simp)]at hr;simpa using hr)
   (by
    refine Ex.of (n:=60) ?_;rw[List.take_length];clear sA sB t1 t4 t5 u2 u3;subst hbx;unfold HY aM;rw[<-n3];generalize ah.map (Ar.d e)=es,ah.map (cz e)=bs,aL.map W.d=es1,fin.map W.d=es2,LK .i64 ps=l9 at*;simp -implicitDefEqProofs[KQ,f1020])
  rw[<-hbx]at sA sB;have sC:Ex E1 f1020.body.r.r.l.l (st0 [.u,.r (.loc 0) 0,.u,.u,.u,.d (.v (.bool false)),.u,.u] [bx]) (.norm,HY (bx::(ah.take 0).map (cz e)) 0 .u):=by
   refine Ex.of (n:=60) ?_;unfold HY;simp -implicitDefEqProofs[f1020]
  cases hr:ah.findIdx? (fun a => !nR kk ps sy st e a) with
  | none =>
   rw[hr]at hloop;have hall:ah.all (nR kk ps sy st e)=true:=by
    rw[List.findIdx?_eq_none_iff]at hr;rw[List.all_eq_true];intro a ha;have:=hr a ha;simpa using this
   rw[hall];have sD:Ex E1 f1020.body.r.r.r (HY (bx::ah.map (cz e)) ah.length (.d (.v (.bool false)))) (.ret,(st0 [.u,.u,.d (.v (.bool true)),.u,.u,.u,.u,.u] (bx::ah.map (cz e)))):=by
    refine Ex.of (n:=60) ?_;unfold HY;generalize ah.map (cz e)=bs at*;simp -implicitDefEqProofs[f1020]
   refine Ca.body (o:=.ret) rfl (k1020:E1.fn _=_) rfl (sA.seq (sB.seq (Ex.seq (sC.seq (Ex.block hloop)) sD))) (by simp) ?_;simp[show f1020.res=[.var 2] from rfl,show f1020.ref=false from rfl]
  | some j =>
   rw[hr]at hloop;have hall:ah.all (nR kk ps sy st e)=false:=by
    rw[List.findIdx?_eq_some_iff_getElem]at hr;obtain⟨hj,h4,_⟩:=hr;rw[List.all_eq_false];exact⟨_,List.getElem_mem hj,by simpa using h4⟩
   rw[hall];refine Ca.body (o:=.ret) rfl (k1020:E1.fn _=_) rfl (sA.seq (sB.seq (Ex.bD (sC.seq (Ex.bf hloop))))) (by simp) ?_;simp[show f1020.res=[.var 2] from rfl,show f1020.ref=false from rfl]
end
end Fi.S
