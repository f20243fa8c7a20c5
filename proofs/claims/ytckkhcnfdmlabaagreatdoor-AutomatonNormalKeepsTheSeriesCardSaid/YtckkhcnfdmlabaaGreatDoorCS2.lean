import Derived.Test.YtckkhcnfdmlabaaGreatDoorCT
set_option linter.unusedVariables false
set_option linter.unusedSimpArgs false
noncomputable section
namespace Fi.S
open Go Fi
set_option maxHeartbeats 8000000
set_option maxRecDepth 10000
section
variable {α:Type} {e:α->W}
def wsB (kk:Int)(ps:List Int)(ws:List W)(n:Int):Bool:=decide ((ws.length:Int)=n)&&ws.all (cz kk ps)
def wwL:aH:=f1054.body.r.r.l.r.bl.lp
def wwS (kk:Int)(ps:List Int)(es:List D)(n:Int)(j:Nat)(t:FV):St:=(st0 [.u,.d (.s 8 es),.d (.v (.int .i64 n)),.r (.loc 0) 0,.u,.d (.v (.int .i64 j)),.u,t,.u] [aS kk ps])
theorem y_ (kk:Int)(ps:List Int)(ws:List W)(n:Int)(hl:ps.length<=1000000)(hn:ws.length<=1000000)(o1:∀ w ∈ ws,w.OK) :
  Ca E1 1054 [.d (bz kk ps),.d (.s 8 (ws.map W.d)),.d (.v (.int .i64 n))] (.d (.v (.bool (wsB kk ps ws n))),none):=by
 have n1:(ws.map W.d).length=ws.length:=by simp
 unfold wsB
 by_cases hlen:(ws.length:Int)=n
 ·subst hlen;rw[decide_eq_true rfl,Bool.true_and];have hloop:=Ex.XP (E:=E1) (b:=wwL) ws (cz kk ps) (fun j=>wwS kk ps (ws.map W.d) ws.length j .u) (.exit 0,wwS kk ps (ws.map W.d) ws.length ws.length (.d (.v (.bool false))))
   (.ret,(st0 [.u,.u,.u,.u,.d (.v (.bool false)),.u,.u,.u,.u] [aS kk ps])) (by simp) (by simp)
   (fun j x hx=>by
    have hj:j<ws.length:=(bH hx)
    obtain⟨N,t⟩:=(Ca.fG (sw kk ps x hl (o1 x (List.mem_of_getElem? hx)))).get;have hj0:(0:Int)<=(j:Int):=by omega
    have bD:ah .i64 ((j:Int)+1)=(j:Int)+1:=wrap_i64 (by omega);have hk1:((j+1:Nat):Int)=(j:Int)+1:=by omega
    have e1:(ws.map W.d)[j]?=some x.d:=by simp[hx]
    obtain⟨s,l1,l2,c,b,u,q,ps',ex⟩:=x.aM;simp only[ex]at t e1;have hjl:(j:Int)<(ws.length:Int):=by omega
    unfold wD bz at*;generalize ws.map W.d=es at*;have i0:=idx e1;have qR:j<es.length:=(bH e1)
    generalize cz kk ps x=r,(ws.length:Int)=m at*;refine Ex.of (n:=N+100) ?_;unfold wwS aS;generalize LK .i64 ps=l9 at*;cases r
    ·rw[if_neg (by simp)];simp -implicitDefEqProofs[wwL,f1054,t,hj0,qR,hjl,e1,i0]
    ·rw[if_pos rfl,hk1];simp -implicitDefEqProofs[wwL,f1054,t,hj0,qR,hjl,e1,i0,bD])
   (by
    refine Ex.of (n:=60) ?_;unfold wwS aS;generalize ws.map W.d=es,LK .i64 ps=l9 at*;simp -implicitDefEqProofs[wwL,f1054])
  have sA:Ex E1 f1054.body.l (st0 [.d (bz kk ps),.d (.s 8 (ws.map W.d)),.d (.v (.int .i64 ws.length)),.u,.u,.u,.u,.u,.u] []) (.norm,(st0 [.u,.d (.s 8 (ws.map W.d)),.d (.v (.int .i64 ws.length)),.r (.loc 0) 0,.u,.u,.u,.u,.u] [aS kk ps])):=by
   refine Ex.of (n:=60) ?_;unfold bz aS;simp -implicitDefEqProofs[f1054]
  have sB:Ex E1 f1054.body.r.l (st0 [.u,.d (.s 8 (ws.map W.d)),.d (.v (.int .i64 ws.length)),.r (.loc 0) 0,.u,.u,.u,.u,.u] [aS kk ps]) (.norm,(st0 [.u,.d (.s 8 (ws.map W.d)),.d (.v (.int .i64 ws.length)),.r (.loc 0) 0,.u,.u,.d (.v (.bool false)),.u,.u] [aS kk ps])):=by
   refine Ex.of (n:=60) ?_;clear hloop sA;rw[<-n1];generalize ws.map W.d=es at*;simp -implicitDefEqProofs[f1054]
  have sC:Ex E1 f1054.body.r.r.l.l (st0 [.u,.d (.s 8 (ws.map W.d)),.d (.v (.int .i64 ws.length)),.r (.loc 0) 0,.u,.u,.d (.v (.bool false)),.u,.u] [aS kk ps]) (.norm,(st0 [.u,.d (.s 8 (ws.map W.d)),.d (.v (.int .i64 ws.length)),.r (.loc 0) 0,.u,.d (.v (.int .i64 0)),.u,.u,.u] [aS kk ps])):=by
   refine Ex.of (n:=60) ?_;simp -implicitDefEqProofs[f1054]
  cases hr:ws.all (cz kk ps) with
  | true =>
   rw[hr,if_pos rfl]at hloop;have sD:Ex E1 f1054.body.r.r.r (st0 [.u,.d (.s 8 (ws.map W.d)),.d (.v (.int .i64 ws.length)),.r (.loc 0) 0,.u,.d (.v (.int .i64 ws.length)),.u,.d (.v (.bool false)),.u] [aS kk ps]) (.ret,(st0 [.u,.u,.u,.u,.d (.v (.bool true)),.u,.u,.u,.u] [aS kk ps])):=by
    refine Ex.of (n:=60) ?_;simp -implicitDefEqProofs[f1054]
   refine Ca.body (o:=.ret) rfl (k1054:E1.fn _=_) rfl (sA.seq (sB.seq (Ex.seq (sC.seq (Ex.block hloop)) sD))) (by simp) ?_;simp[show f1054.res=[.var 4] from rfl,show f1054.ref=false from rfl]
  | false =>
   rw[hr,if_neg (by simp)]at hloop;refine Ca.body (o:=.ret) rfl (k1054:E1.fn _=_) rfl (sA.seq (sB.seq (Ex.dI (sC.seq (Ex.cO hloop))))) (by simp) ?_;simp[show f1054.res=[.var 4] from rfl,show f1054.ref=false from rfl]
 ·have hne:((ws.length:Int) != n)=true:=by simpa using hlen
  rw[decide_eq_false hlen,Bool.false_and];refine Ca.bO (n:=100) ?_;rw[ak rfl (k1054:E1.fn _=_) rfl];rw[<-n1]at hne;unfold bz;generalize ws.map W.d=es,LK .i64 ps=l9 at*;simp -implicitDefEqProofs[f1054,hne]
def xW (kk:Int)(ps:List Int)(sy st:Int)(aZ fin:List W)(n:Nat):Bool :=
 aI kk ps&&(BZ sy 1 32&&(BZ st 0 64&&(wsB kk ps aZ st&&(wsB kk ps fin st&&decide ((n:Int)<=2048)))))
def Ux (kk:Int)(ps:List Int)(sy st:Int)(aZ fin:List W)(e:α->W)(aB:List (Ar α)):Bool:=xW kk ps sy st aZ fin aB.length&&aB.all (o8 kk ps sy st e)
theorem Uy (kk:Int)(ps:List Int)(sy st:Int)(aZ fin:List W)(aB:List (Ar α)):Ux kk ps sy st aZ fin e aB=LJ kk ps sy st aZ fin e aB:=by
 unfold Ux LJ xW Nv wsB BZ;generalize aB.all (o8 kk ps sy st e)=b1;generalize aZ.all (cz kk ps)=b2;generalize fin.all (cz kk ps)=b3;generalize aI kk ps=b4;rw[Bool.eq_iff_iff];simp only[Bool.and_eq_true,decide_eq_true_eq];grind
def Ny:aH:=f1020.body.r.r.l.r.bl.lp
def J5 (bs:List ae)(j:Nat)(t:FV):St:=(st0 [.u,.r (.loc 0) 0,.u,.d (.v (.int .i64 j)),.u,.u,t,.u] bs)
def jQ (e:α->W)(a:Ar α):ae:=.box ((a.d e).cells.map .d)
theorem Uz (kk:Int)(ps:List Int)(sy st:Int)(aZ fin:List D)(aB:List (Ar α))(hl:ps.length<=1000000)(h3:aB.length<=1000000)(hst:0<=st/\st<=64)(bs:List ae)(h0:bs[0]?=some (aX kk ps sy st aZ fin (aB.map (Ar.d e))))(j:Nat)(a:Ar α)(ha:aB[j]?=some a)(o:(e a.x).OK) :
  Ex E1 Ny (J5 bs j .u) (if o8 kk ps sy st e a then(.norm,J5 (bs++[jQ e a]) (j+1) .u) else(.ret,(st0 [.u,.u,.d (.v (.bool false)),.u,.u,.u,.u,.u] (bs++[jQ e a])))):=by
 have hj:j<aB.length:=(bH ha)
 obtain⟨N,t⟩:=(Ca.fG (sw kk ps (e a.x) hl o)).get;have u:=fun m x hi=>aaa m x 0 hi
 have hj0:(0:Int)<=(j:Int):=by omega
 have bD:ah .i64 ((j:Int)+1)=(j:Int)+1:=wrap_i64 (by omega);have hdec:ah .i64 (st-1)=st-1:=wrap_i64 (by omega);have hk1:((j+1:Nat):Int)=(j:Int)+1:=by omega
 have e1:(aB.map (Ar.d e))[j]?=some (a.d e):=by simp[ha]
 have X7:0<bs.length:=(bH h0)
 obtain⟨B,hB⟩:∃ B,bs.length=B:=⟨_,rfl⟩
 have hg:=fun(o:ae)=>mV (o:=o) hB
 have hs:=fun(o o':ae)=>mW (o:=o) (o':=o') hB
 have g0:∀ X,(bs++X)[0]?=some (aX kk ps sy st aZ fin (aB.map (Ar.d e))):=fun X=>by rw[List.getElem?_append_left X7];exact h0
 have n3:(aB.map (Ar.d e)).length=aB.length:=by simp
 have hb:o8 kk ps sy st e a=(BZ a.f 0 (st-1)&&(BZ a.t 0 (st-1)&&(BZ a.l 0 sy&&cz kk ps (e a.x)))):=by
  unfold o8 X5 BZ;generalize cz kk ps (e a.x)=c;rw[Bool.eq_iff_iff];simp only[Bool.and_eq_true,decide_eq_true_eq];constructor
  ·rintro⟨⟨q1,q2⟩,⟨q3,q4⟩,q5,q6,q7⟩;exact⟨⟨q1,by omega⟩,⟨q3,by omega⟩,⟨q5,q6⟩,q7⟩
  ·rintro⟨⟨q1,q2⟩,⟨q3,q4⟩,⟨q5,q6⟩,q7⟩;exact⟨⟨q1,by omega⟩,⟨q3,by omega⟩,q5,q6,q7⟩
 rw[hb];have u1:=fun m=>u m a.f (st-1)
 have u2:=fun m=>u m a.t (st-1)
 have u3:=fun m=>u m a.l sy
 clear u hb;have sA:Ex E1 Ny.l (J5 bs j .u) (.norm,J5 bs j (.d (.v (.bool true)))):=by
  refine Ex.of (n:=60) ?_;clear t u1 u2 u3 hg hs;unfold J5 aX at*;have hjl:(j:Int)<(aB.length:Int):=by omega
  generalize LK .i64 ps=l9,aB.map (Ar.d e)=es at*;have i1:=idx h0;simp -implicitDefEqProofs[Ny,f1020,h0,i1,X7,hjl,n3]
 have sB:Ex E1 Ny.r.l.bl.l (J5 bs j (.d (.v (.bool true)))) (.norm,(st0 [.u,.r (.loc 0) 0,.u,.d (.v (.int .i64 j)),.r (.loc B) 0,.u,.u,.u] (bs++[jQ e a]))):=by
  refine Ex.of (n:=60) ?_;clear t u1 u2 u3;unfold J5 aX jQ at*;obtain⟨s,l1,l2,c,b,u',q,ps',ew,ed⟩:=a.jO e;rw[ed]at e1 ⊢;unfold BO at*;simp only[D.cells,List.map_cons,List.map_nil];generalize LK .i64 ps=l9,aB.map (Ar.d e)=es at*;have i0:=idx e1;have i1:=idx h0;have qR:j<es.length:=(bH e1)
  simp -implicitDefEqProofs[Ny,f1020,hj0,qR,e1,i0,i1,h0,hg,hs,hB,X7]
 have h0':=g0 [jQ e a];have hB':(bs++[jQ e a])[B]?=some (jQ e a):=hg _;generalize bs++[jQ e a]=L at*;clear hg hs g0 h0 X7 hB;have X7:0<L.length:=(bH h0')
 have bBl:B<L.length:=(bH hB')
 have sC:Ex E1 Ny.r.l.bl.r (st0 [.u,.r (.loc 0) 0,.u,.d (.v (.int .i64 j)),.r (.loc B) 0,.u,.u,.u] L)
   (if (BZ a.f 0 (st-1)&&(BZ a.t 0 (st-1)&&(BZ a.l 0 sy&&cz kk ps (e a.x)))) then(.norm,(st0 [.u,.r (.loc 0) 0,.u,.d (.v (.int .i64 j)),.u,.u,.u,.d (.v (.bool false))] L))
    else(.ret,(st0 [.u,.u,.d (.v (.bool false)),.u,.u,.u,.u,.u] L))):=by
  refine Ex.of (n:=N+300) ?_;clear sA sB e1;unfold jQ aX at*;obtain⟨s,l1,l2,c,b,u',q,ps',ew,ed⟩:=a.jO e;rw[ed]at hB';rw[ew]at t;unfold BO wD bz at*;simp only[D.cells,List.map_cons,List.map_nil]at hB';generalize BZ a.f 0 (st-1)=b1,BZ a.t 0 (st-1)=b2,BZ a.l 0 sy=b3,cz kk ps (e a.x)=b4,LK .i64 ps=l9,aB.map (Ar.d e)=es at*;have i1:=idx h0';have i2:=idx hB';cases b1
  ·simp -implicitDefEqProofs[Ny,f1020,t,u1,i1,i2,h0',hB',X7,bBl,hdec]
  cases b2
  ·simp -implicitDefEqProofs[Ny,f1020,t,u1,u2,i1,i2,h0',hB',X7,bBl,hdec]
  cases b3
  ·simp -implicitDefEqProofs[Ny,f1020,t,u1,u2,u3,i1,i2,h0',hB',X7,bBl,hdec]
  cases b4<;>simp -implicitDefEqProofs[Ny,f1020,t,u1,u2,u3,i1,i2,h0',hB',X7,bBl,hdec]
 have sD:Ex E1 Ny.r.r (st0 [.u,.r (.loc 0) 0,.u,.d (.v (.int .i64 j)),.u,.u,.u,.d (.v (.bool false))] L) (.norm,J5 L (j+1) .u):=by
  refine Ex.of (n:=60) ?_;unfold J5;rw[hk1];simp -implicitDefEqProofs[Ny,f1020,bD]
 cases hbb:(BZ a.f 0 (st-1)&&(BZ a.t 0 (st-1)&&(BZ a.l 0 sy&&cz kk ps (e a.x)))) with
 | true =>
  rw[hbb,if_pos rfl]at sC;rw[if_pos rfl];exact sA.seq (Ex.seq (Ex.h_ (sB.seq sC)) sD)
 | false =>
  rw[hbb,if_neg (by simp)]at sC;rw[if_neg (by simp)];exact sA.seq (Ex.dI (Ex.cO (sB.seq sC)))
theorem F_ (kk:Int)(ps:List Int)(sy st:Int)(aZ fin:List W)(aB:List (Ar α))(hl:ps.length<=1000000)(h1:aZ.length<=1000000)(h2:fin.length<=1000000)(h3:aB.length<=1000000)
  (o1:∀ w ∈ aZ,w.OK) (o2:∀ w ∈ fin,w.OK) (o3:∀ a ∈ aB,(e a.x).OK) :
  Ca E1 1020 [.d (Cb kk ps sy st aZ fin e aB)] (.d (.v (.bool (LJ kk ps sy st aZ fin e aB))),none):=by
 rw[<-Uy];obtain⟨N1,t1⟩:=(Ca.fG (Ca.bO (fF 0 kk ps))).any;have u2:=fun m=>Ga m sy
 have u3:=fun m=>aaa m st 0 64
 obtain⟨N4,t4⟩:=(y_ kk ps aZ st hl h1 o1).any;obtain⟨N5,t5⟩:=(y_ kk ps fin st hl h2 o2).any;obtain⟨K,hK⟩:∃ K,K=N1+N4+N5:=⟨_,rfl⟩
 replace t1:=t1 K (by omega);replace t4:=t4 K (by omega);replace t5:=t5 K (by omega);have n3:(aB.map (Ar.d e)).length=aB.length:=by simp
 have sA:Ex E1 f1020.body.l (st0 [.d (Cb kk ps sy st aZ fin e aB),.u,.u,.u,.u,.u,.u,.u] [])
   (.norm,(st0 [.u,.r (.loc 0) 0,.u,.u,.u,.u,.u,.u] [aX kk ps sy st (aZ.map W.d) (fin.map W.d) (aB.map (Ar.d e))])):=by
  refine Ex.of (n:=60) ?_;unfold Cb u7 aX;simp -implicitDefEqProofs[f1020]
 have sB:Ex E1 f1020.body.r.l (st0 [.u,.r (.loc 0) 0,.u,.u,.u,.u,.u,.u] [aX kk ps sy st (aZ.map W.d) (fin.map W.d) (aB.map (Ar.d e))])
   (if xW kk ps sy st aZ fin aB.length
    then(.norm,(st0 [.u,.r (.loc 0) 0,.u,.u,.u,.d (.v (.bool false)),.u,.u] [aX kk ps sy st (aZ.map W.d) (fin.map W.d) (aB.map (Ar.d e))]))
    else(.ret,(st0 [.u,.u,.d (.v (.bool false)),.u,.u,.u,.u,.u] [aX kk ps sy st (aZ.map W.d) (fin.map W.d) (aB.map (Ar.d e))]))):=by
  refine Ex.of (n:=K+300) ?_;unfold xW;clear sA o1 o2 o3 hK;generalize aI kk ps=b1,BZ sy 1 32=b2,BZ st 0 64=b3,wsB kk ps aZ st=b4,wsB kk ps fin st=b5,aB.length=m3 at*;unfold aX bz at*;generalize LK .i64 ps=l9,aZ.map W.d=es1,fin.map W.d=es2,aB.map (Ar.d e)=es3 at*;cases b1
  ·simp -implicitDefEqProofs[f1020,t1]
  cases b2
  ·simp -implicitDefEqProofs[f1020,t1,u2]
  cases b3
  ·simp -implicitDefEqProofs[f1020,t1,u2,u3]
  cases b4
  ·simp -implicitDefEqProofs[f1020,t1,u2,u3,t4]
  cases b5
  ·simp -implicitDefEqProofs[f1020,t1,u2,u3,t4,t5]
  by_cases c3:(m3:Int)<=2048
  ·have c3':¬ 2048<(m3:Int):=by omega
   rw[decide_eq_true c3];clear c3;simp -implicitDefEqProofs[f1020,t1,u2,u3,t4,t5,c3',n3]
  ·have c3':2048<(m3:Int):=by omega
   rw[decide_eq_false c3];clear c3;simp -implicitDefEqProofs[f1020,t1,u2,u3,t4,t5,c3',n3]
 unfold Ux;cases hH:xW kk ps sy st aZ fin aB.length with
 | false =>
  rw[hH,if_neg (by simp)]at sB;rw[Bool.false_and];refine Ca.body (o:=.ret) rfl (k1020:E1.fn _=_) rfl (sA.seq (Ex.dI sB)) (by simp) ?_;simp[show f1020.res=[.var 2] from rfl,show f1020.ref=false from rfl]
 | true =>
  rw[hH,if_pos rfl]at sB;rw[Bool.true_and];have hst:0<=st/\st<=64:=by
   unfold xW BZ at hH;simp only[Bool.and_eq_true,decide_eq_true_eq]at hH;exact hH.2.2.1
  obtain⟨bx,hbx⟩:∃ bx,bx=aX kk ps sy st (aZ.map W.d) (fin.map W.d) (aB.map (Ar.d e)):=⟨_,rfl⟩
  have hloop:=Ex.BN (E:=E1) (b:=Ny) aB (fun a => !o8 kk ps sy st e a) (fun j=>J5 (bx::(aB.take j).map (jQ e)) j .u) (.exit 0,J5 (bx::aB.map (jQ e)) aB.length (.d (.v (.bool false))))
   (fun j=>(.ret,(st0 [.u,.u,.d (.v (.bool false)),.u,.u,.u,.u,.u] (bx::(aB.take (j+1)).map (jQ e))))) (by simp) (by simp)
   (fun j a ha=>by
    have hr:=Uz kk ps sy st (aZ.map W.d) (fin.map W.d) aB hl h3 hst (bx::(aB.take j).map (jQ e)) (by rw[hbx];rfl) j a ha (o3 a (List.mem_of_getElem? ha));have htk:aB.take (j+1)=aB.take j++[a]:=by rw[List.take_add_one,ha];rfl
    rw[htk,List.map_append];cases hi:o8 kk ps sy st e a with
    | true =>
     rw[hi,if_pos rfl]at hr;simpa using hr
    | false =>
     rw[hi,if_neg (by simp)]at hr;simpa using hr)
   (by
    refine Ex.of (n:=60) ?_;rw[List.take_length];clear sA sB t1 t4 t5 u2 u3;subst hbx;unfold J5 aX;rw[<-n3];generalize aB.map (Ar.d e)=es,aB.map (jQ e)=bs,aZ.map W.d=es1,fin.map W.d=es2,LK .i64 ps=l9 at*;simp -implicitDefEqProofs[Ny,f1020])
  rw[<-hbx]at sA sB;have sC:Ex E1 f1020.body.r.r.l.l (st0 [.u,.r (.loc 0) 0,.u,.u,.u,.d (.v (.bool false)),.u,.u] [bx]) (.norm,J5 (bx::(aB.take 0).map (jQ e)) 0 .u):=by
   refine Ex.of (n:=60) ?_;unfold J5;simp -implicitDefEqProofs[f1020]
  cases hr:aB.findIdx? (fun a => !o8 kk ps sy st e a) with
  | none =>
   rw[hr]at hloop;have hall:aB.all (o8 kk ps sy st e)=true:=by
    rw[List.findIdx?_eq_none_iff]at hr;rw[List.all_eq_true];intro a ha;have:=hr a ha;simpa using this
   rw[hall];have sD:Ex E1 f1020.body.r.r.r (J5 (bx::aB.map (jQ e)) aB.length (.d (.v (.bool false)))) (.ret,(st0 [.u,.u,.d (.v (.bool true)),.u,.u,.u,.u,.u] (bx::aB.map (jQ e)))):=by
    refine Ex.of (n:=60) ?_;unfold J5;generalize aB.map (jQ e)=bs at*;simp -implicitDefEqProofs[f1020]
   refine Ca.body (o:=.ret) rfl (k1020:E1.fn _=_) rfl (sA.seq (sB.seq (Ex.seq (sC.seq (Ex.block hloop)) sD))) (by simp) ?_;simp[show f1020.res=[.var 2] from rfl,show f1020.ref=false from rfl]
  | some j =>
   rw[hr]at hloop;have hall:aB.all (o8 kk ps sy st e)=false:=by
    rw[List.findIdx?_eq_some_iff_getElem]at hr;obtain⟨hj,h4,_⟩:=hr;rw[List.all_eq_false];exact⟨_,List.getElem_mem hj,by simpa using h4⟩
   rw[hall];refine Ca.body (o:=.ret) rfl (k1020:E1.fn _=_) rfl (sA.seq (sB.seq (Ex.dI (sC.seq (Ex.cO hloop))))) (by simp) ?_;simp[show f1020.res=[.var 2] from rfl,show f1020.ref=false from rfl]
end
end Fi.S
