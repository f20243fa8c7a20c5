import Derived.Test.YtkekcmgkpdkieaaGreatDoorCR
set_option linter.unusedVariables false
set_option linter.unusedSimpArgs false
noncomputable section
namespace Fi.S
open Go Fi
set_option maxHeartbeats 8000000
section
variable {α:Type} {e:α->W}
def gI (kk:Int)(ps:List Int)(sy st:Int)(aJ fin ak:List D):D:=.a [vI kk,.s 1 (LK .i64 ps),vI sy,vI st,.s 8 aJ,.s 8 fin,.s 11 ak]
def aO (kk:Int)(ps:List Int)(sy st:Int)(aJ fin ak:List D):ai:=.box [dI kk,.d (.s 1 (LK .i64 ps)),dI sy,dI st,.d (.s 8 aJ),.d (.s 8 fin),.d (.s 11 ak)]
theorem xL (kk:Int)(ps:List Int)(sy st:Int)(aJ fin ak:List D)(n:Nat):ai.aA n (aO kk ps sy st aJ fin ak)=aO kk ps sy st aJ fin ak :=
 ku [vI kk,.s 1 (LK .i64 ps),vI sy,vI st,.s 8 aJ,.s 8 fin,.s 11 ak] n
def BF (x lo hi:Int):Bool:=decide (lo<=x)&&decide (x<=hi)
def OM (x st:Int):Bool:=decide (0<=x)&&decide (x<st)
theorem xM (x kk:Int)(ps:List Int)(sy st:Int)(aJ fin ak:List D)(B:List ai)(r0:Nat)(hB:B[r0]?=some (aO kk ps sy st aJ fin ak))(m:Nat) :
  CL E1 (m+100) 1106 [dI x,.r (.old r0) 0] B=some (dB (OM x st),none):=by
 have i0:=idx hB;have l0:r0<B.length:=(aS hB)
 rw[aB rfl (aN 1106 f1106:E1.fn _=_) rfl];unfold aO OM at*
 by_cases h1:0<=x
 ·simp[f1106,hB,i0,l0,h1]
 ·have h2:x<0:=ae;simp[f1106,hB,i0,l0,h1,h2]
def mQ (kk:Int)(ps:List Int)(sy st:Int)(e:α->W)(a:Ar α):Bool:=OM a.f st&&(OM a.t st&&(decide (0<=a.l)&&(decide (a.l<=sy)&&bU kk ps (e a.x))))
theorem OO (kk:Int)(ps:List Int)(sy st:Int)(aJ fin ak:List D)(a:Ar α)(hl:ps.length<=1000000)(hw:(e a.x).OK) :
  Ca E1 1067 [.d (a.d e),.d (gI kk ps sy st aJ fin ak)] (dB (mQ kk ps sy st e a),none):=by
 obtain⟨N,t⟩:=(Ca.jg (AR kk ps (e a.x) hl hw)).get;have ts:∀ (x:Int) (b:ai) m,(∀ n,ai.aA n b=b)->CL E1 (m+100) 1106 [dI x,.r (.old 1) 0] [b,aO kk ps sy st aJ fin ak]=some (dB (OM x st),none) :=
  fun x b m _=>xM x kk ps sy st aJ fin ak _ 1 rfl m
 have t1:=fun b m=>xM a.f kk ps sy st aJ fin ak [b,aO kk ps sy st aJ fin ak] 1 rfl m
 have t2:=fun b m=>xM a.t kk ps sy st aJ fin ak [b,aO kk ps sy st aJ fin ak] 1 rfl m
 have ho:=xL kk ps sy st aJ fin ak;refine Ca.bO (n:=N+400) ?_;rw[aB rfl (aN 1067 f1067:E1.fn _=_) rfl];obtain⟨s,l1,l2,c,b,u,p,q,ew,ex⟩:=a.dP e;rw[ew]at t;rw[ex];unfold mQ;generalize bU kk ps (e a.x)=ck at*;clear ts ew ex hw;generalize OM a.f st=s1,OM a.t st=s2 at*;generalize a.f=af,a.l=al,a.t=ta at*;unfold gI aO bD wD mM at*;cases s1
 ·simp[f1067,t1,FV.aA,FV.aT,ai.aA]
 ·cases s2
  ·simp[f1067,t1,t2,FV.aA,FV.aT,ai.aA]
  ·by_cases h1:0<=al
   ·by_cases h2:al<=sy
    ·simp[f1067,t,t1,t2,h1,h2,FV.aA,FV.aT,ai.aA]
    ·have h3:sy<al:=ae;simp[f1067,t1,t2,h1,h2,h3,FV.aA,FV.aT,ai.aA]
   ·have h3:al<0:=ae;simp[f1067,t1,t2,h1,h3,FV.aA,FV.aT,ai.aA]
theorem Iz (kk:Int)(ps:List Int)(sy st:Int)(aJ fin ak:List D)(a:Ar α)(hl:ps.length<=1000000)(hw:(e a.x).OK)(r0:Nat) :
  ∃ N,∀ B:List ai,B[r0]?=some (aO kk ps sy st aJ fin ak)->∀ m,CL E1 (N+m) 1066 [.d (a.d e),.r (.old r0) 0] B=some (dB (!mQ kk ps sy st e a),none):=by
 obtain⟨N,t⟩:=(OO (e:=e) kk ps sy st aJ fin ak a hl hw).get;refine⟨N+100,fun B hB m => ?_⟩;have l0:r0<B.length:=(aS hB)
 have gB:∀ X,(B++X)[r0]?=some (aO kk ps sy st aJ fin ak):=fun X=>by rw[Qa0 l0];exact hB
 obtain⟨s,l1,l2,c,i,u,p,q,ew,ex⟩:=a.dP e;rw[ex]at t ⊢;generalize mQ kk ps sy st e a=r at*;unfold aO gI mM at*;rw[show N+100+m=(N+m)+100 by omega,aB rfl (aN 1066 f1066:E1.fn _=_) rfl];replace t:=fun k=>bX (t 0) (show N+0<=N+m+k by omega)
 simp[f1066,t,gB]
theorem OP (kk:Int)(ps:List Int)(w:W)(hl:ps.length<=1000000)(hw:w.OK)(r0:Nat) :
  ∃ N,∀ B:List ai,B[r0]?=some (aK kk ps)->∀ m,CL E1 (N+m) 1108 [.d w.d,.r (.old r0) 0] B=some (dB (!bU kk ps w),none):=by
 obtain⟨N,t⟩:=(Ca.jg (AR kk ps w hl hw)).get;refine⟨N+100,fun B hB m => ?_⟩;have l0:r0<B.length:=(aS hB)
 have gB:∀ X,(B++X)[r0]?=some (aK kk ps):=fun X=>by rw[Qa0 l0];exact hB
 obtain⟨s,l1,l2,c,i,u,p,q,ew⟩:=w.bq;rw[ew]at t ⊢;generalize bU kk ps w=r at*;unfold aK bD wD at*;rw[show N+100+m=(N+m)+100 by omega,aB rfl (aN 1108 f1108:E1.fn _=_) rfl];replace t:=fun k=>bX (t 0) (show N+0<=N+m+k by omega)
 simp[f1108,t,gB]
def iwL:aF:=f1139.body.r.l.r.bl.lp
def TK (g r0:Nat)(es:List D)(B:List ai)(j:Nat)(t:FV):St :=
 {vars:=[.d (.s 8 es),.f g [] [.r (.old r0) 0],.u,.u,dI es.length,dI j,t,.u],base:=B,loc:=[],aQ:=false}
theorem OQ (g r0:Nat)(ws:List W)(p:W->Bool)(B:List ai)(hO:∀ n,B.map (ai.aA n)=B)(hn:ws.length<=1000000)(hc:∀ a ∈ ws,∃ N,∀ m,CL E1 (N+m) g [.d a.d,.r (.old r0) 0] B=some (dB (p a),none)) :
  ∃ N,∀ m,CL E1 (N+m) 1139 [.d (.s 8 (ws.map W.d)),.f g [] [.r (.old r0) 0]] B=some (.d (.v (.int .i64 (match ws.findIdx? p with|some j=>(j:Int)|none=>-1))),none):=by
 have hl:(ws.map W.d).length=ws.length:=aC;have hloop:=Ex.vV (E:=E1) (b:=iwL) ws p (fun j=>TK g r0 (ws.map W.d) B j .u) (.exit 0,TK g r0 (ws.map W.d) B ws.length (dB false)) (fun j=>(.ret,{vars:=(.u::.u::dI j::iO),base:=B,loc:=[],aQ:=false})) aC aC
  (fun j a ha=>by
   obtain⟨N,t⟩:=hc a (Qb2 ha);have hj:j<ws.length:=(aS ha)
   have hjn:(j:Int)<(ws.length:Int):=ae;have hj0:(0:Int)<=(j:Int):=ae;have aP:av .i64 ((j:Int)+1)=(j:Int)+1:=wrap_i64 ae;have hk1:((j+1:Nat):Int)=(j:Int)+1:=ae;have e1:(ws.map W.d)[j]?=some a.d:=by simp[ha]
   obtain⟨s,l1,l2,c,i,u,q,ps,ex⟩:=a.bq;rw[ex]at t e1;unfold wD at*;generalize ws.map W.d=es at*;have i0:=idx e1;generalize p a=pa at*;refine Ex.of (n:=N+100) ?_;have dw:j<es.length:=(aS e1)
   have hjl:(j:Int)<(es.length:Int):=ae;unfold TK;cases pa
   ·rw[if_neg aC,hk1];simp[iwL,f1139,t,hj0,hjn,dw,hjl,aP,e1,i0,hO,FV.aA,FV.aT]
   ·rw[if_pos rfl];simp[iwL,f1139,t,hj0,hjn,dw,hjl,e1,i0,hO,FV.aA,FV.aT])
  (by
   apply e6;unfold TK;generalize ws.map W.d=es at*;rw[<-hl];generalize es.length=n at*;simp[iwL,f1139])
 have h0:Ex E1 f1139.body.l (TK g r0 (ws.map W.d) B 0 .u |> fun s=>{s with vars:=(.d (.s 8 (ws.map W.d))::.f g [] [.r (.old r0) 0]::qm)}) (.norm,TK g r0 (ws.map W.d) B 0 .u |> fun s=>{s with vars:=(.d (.s 8 (ws.map W.d))::.f g [] [.r (.old r0) 0]::qm)}):=by
  apply e6;unfold TK;simp[f1139]
 have h1 := nx h0 f1139.body.r.l.l (TK g r0 (ws.map W.d) B 0 .u) (by
  apply e6;unfold TK;simp[f1139])
 cases hf:ws.findIdx? p with
 | some j =>
  rw[hf]at hloop;exact oZ (E:=E1) (g:=1139) (F:=f1139) (B:=B) rfl (k1139:E1.fn _=_) rfl (Ex.seq h0 (Ex.bN (Ex.seq h1 (Ex.bG hloop)))) aC (by simp[finish,jF,EO,show f1139.res=[.var 2] from rfl,show f1139.ref=false from rfl,fD,leaves,dL,oneOf,iW,D.norm,FV.rows,FV.mU,aL])
 | none =>
  rw[hf]at hloop;have h2:Ex E1 f1139.body.r.r (TK g r0 (ws.map W.d) B ws.length (dB false)) (.ret,{vars:=(.u::.u::dI (-1)::iO),base:=B,loc:=[],aQ:=false}):=by
   apply e6;unfold TK;simp[f1139]
  exact oZ (E:=E1) (g:=1139) (F:=f1139) (B:=B) rfl (k1139:E1.fn _=_) rfl (Ex.seq h0 (Ex.seq (Ex.seq h1 (Ex.block hloop)) h2)) aC (by simp[finish,jF,EO,show f1139.res=[.var 2] from rfl,show f1139.ref=false from rfl,fD,leaves,dL,oneOf,iW,D.norm,FV.rows,FV.mU,aL])
end
set_option maxRecDepth 10000
section
variable {α:Type} {e:α->W}
theorem MM {β:Type}(l:List β)(p:β->Bool):decide ((0:Int)<=(match l.findIdx? (fun a => !p a) with|some j=>(j:Int)|none=>-1)) = !l.all p:=by
 cases h:l.findIdx? (fun a => !p a) with
 | some j =>
  obtain⟨h1,h2,_⟩:=Qr1.1 h;have:l.all p=false:=by
   rw[List.all_eq_false];exact⟨_,Qj1 h1,by simpa using h2⟩
  simp only[this,Bool.not_false,decide_eq_true_eq];omega
 | none =>
  have:l.all p=true:=by
   rw[Qf0];intro a ha;simpa using Xd1.1 h a ha
  simp only[this,Xh2,decide_eq_false_iff_not];omega
theorem IA (g r0:Nat)(aq:List (Ar α))(p:Ar α->Bool)(B:List ai)(hO:∀ n,B.map (ai.aA n)=B)(hn:aq.length<=1000000)(hc:∀ a ∈ aq,∃ N,∀ m,CL E1 (N+m) g [.d (a.d e),.r (.old r0) 0] B=some (dB (!p a),none)) :
  ∃ N,∀ m,CL E1 (N+m) 1065 [.d (.s 11 (aq.map (Ar.d e))),.f g [] [.r (.old r0) 0]] B=some (dB (!aq.all p),none):=by
 obtain⟨N,t⟩:=BD g r0 aq (fun a => !p a) B hO hn hc;have hf:=MM aq p;refine⟨N+100,fun m => ?_⟩;rw[show N+100+m=(N+m)+100 by omega,aB rfl (aN 1065 f1065:E1.fn _=_) rfl];replace t:=fun k=>bX (t 0) (show N+0<=N+m+k by omega)
 clear hc;generalize aq.map (Ar.d e)=es at*;cases h:aq.findIdx? (fun a => !p a) with
 | some j =>
  rw[h]at t hf;have hb:aq.all p=false:=by
   have h9:(0:Int)<=(j:Int):=ae;simp only[h9,decide_true]at hf;cases hh:aq.all p with
   | true=>rw[hh]at hf;cases hf
   | false=>rfl
  rw[hb];simp[f1065,t,hO,FV.aA,FV.aT]
 | none =>
  rw[h]at t hf;have hb:aq.all p=true:=by
   cases hh:aq.all p with
   | true=>rfl
   | false=>rw[hh]at hf;cases hf
  rw[hb];simp[f1065,t,hO,FV.aA,FV.aT]
theorem FL (g r0:Nat)(ws:List W)(p:W->Bool)(B:List ai)(hO:∀ n,B.map (ai.aA n)=B)(hn:ws.length<=1000000)(hc:∀ a ∈ ws,∃ N,∀ m,CL E1 (N+m) g [.d a.d,.r (.old r0) 0] B=some (dB (!p a),none)) :
  ∃ N,∀ m,CL E1 (N+m) 1107 [.d (.s 8 (ws.map W.d)),.f g [] [.r (.old r0) 0]] B=some (dB (!ws.all p),none):=by
 obtain⟨N,t⟩:=OQ g r0 ws (fun a => !p a) B hO hn hc;have hf:=MM ws p;refine⟨N+100,fun m => ?_⟩;rw[show N+100+m=(N+m)+100 by omega,aB rfl (aN 1107 f1107:E1.fn _=_) rfl];replace t:=fun k=>bX (t 0) (show N+0<=N+m+k by omega)
 clear hc;generalize ws.map W.d=es at*;cases h:ws.findIdx? (fun a => !p a) with
 | some j =>
  rw[h]at t hf;have hb:ws.all p=false:=by
   have h9:(0:Int)<=(j:Int):=ae;simp only[h9,decide_true]at hf;cases hh:ws.all p with
   | true=>rw[hh]at hf;cases hf
   | false=>rfl
  rw[hb];simp[f1107,t,hO,FV.aA,FV.aT]
 | none =>
  rw[h]at t hf;have hb:ws.all p=true:=by
   cases hh:ws.all p with
   | true=>rfl
   | false=>rw[hh]at hf;cases hf
  rw[hb];simp[f1107,t,hO,FV.aA,FV.aT]
theorem OT (kk:Int)(ps:List Int)(n:Nat):ai.aA n (aK kk ps)=aK kk ps:=ku [vI kk,.s 1 (LK .i64 ps)] n
theorem BG (kk:Int)(ps:List Int)(ws:List W)(hl:ps.length<=1000000)(hn:ws.length<=1000000)(hw:∀ w ∈ ws,w.OK) :
  Ca E1 1068 [.d (bD kk ps),.d (.s 8 (ws.map W.d))] (dB (ws.all (bU kk ps)),none):=by
 obtain⟨N,t⟩:=FL 1108 0 ws (bU kk ps) [aK kk ps] (fun n=>by simp[OT]) hn (fun w h=>by
  obtain⟨N,t⟩:=OP kk ps w hl (hw w h) 0;exact⟨N,t _ rfl⟩)
 refine Ca.bO (n:=N+100) ?_;rw[aB rfl (aN 1068 f1068:E1.fn _=_) rfl];generalize ws.all (bU kk ps)=r,ws.map W.d=es at*;unfold bD aK at*;simp[f1068,t,FV.aA,FV.aT,ai.aA]
def Eh (kk:Int)(ps:List Int)(sy st:Int)(n1 n2 n3:Nat):Bool :=
 aR kk ps&&(decide (1<=sy)&&(decide (sy<=32)&&(decide (0<=st)&&(decide (st<=64)&&(decide ((n1:Int)=st)&&(decide ((n2:Int)=st)&&decide ((n3:Int)<=2048)))))))
def zi (kk:Int)(ps:List Int)(sy st:Int)(aJ fin:List W)(e:α->W)(ak:List (Ar α)):Bool :=
 Eh kk ps sy st aJ.length fin.length ak.length&&(ak.all (mQ kk ps sy st e)&&(aJ.all (bU kk ps)&&fin.all (bU kk ps)))
def mR (kk:Int)(ps:List Int)(sy st:Int)(aJ fin:List W)(e:α->W)(ak:List (Ar α)):D:=gI kk ps sy st (aJ.map W.d) (fin.map W.d) (ak.map (Ar.d e))
theorem vZ (kk:Int)(ps:List Int)(sy st:Int)(aJ fin:List W)(ak:List (Ar α))(hl:ps.length<=1000000)(h1:aJ.length<=1000000)(h2:fin.length<=1000000)(h3:ak.length<=1000000)
  (o1:∀ w ∈ aJ,w.OK) (o2:∀ w ∈ fin,w.OK) (o3:∀ a ∈ ak,(e a.x).OK) :
  Ca E1 1026 [.d (mR kk ps sy st aJ fin e ak)] (dB (zi kk ps sy st aJ fin e ak),none):=by
 obtain⟨N1,t1⟩:=IA (e:=e) 1066 0 ak (mQ kk ps sy st e) [aO kk ps sy st (aJ.map W.d) (fin.map W.d) (ak.map (Ar.d e))] (fun n=>by simp[xL]) h3 (fun a h=>by
  obtain⟨N,t⟩:=Iz (e:=e) kk ps sy st (aJ.map W.d) (fin.map W.d) (ak.map (Ar.d e)) a hl (o3 a h) 0;exact⟨N,t _ rfl⟩)
 obtain⟨N2,t2⟩:=(BG kk ps aJ hl h1 o1).any;obtain⟨N3,t3⟩:=(BG kk ps fin hl h2 o2).any;obtain⟨N4,t4⟩:=(Ca.jg (Ca.bO (oK 0 kk ps))).any;obtain⟨K,hK⟩:∃ K,K=N1+N2+N3+N4:=⟨_,rfl⟩
 replace t1:=fun m=>bX (t1 0) (show N1+0<=K+m by omega)
 replace t2:=t2 K ae;replace t3:=t3 K ae;replace t4:=t4 K ae;have ho:=xL kk ps sy st (aJ.map W.d) (fin.map W.d) (ak.map (Ar.d e));have n1:(aJ.map W.d).length=aJ.length:=aC;have n2:(fin.map W.d).length=fin.length:=aC;have n3:(ak.map (Ar.d e)).length=ak.length:=aC;refine Ca.bO (n:=K+300) ?_;rw[aB rfl (aN 1026 f1026:E1.fn _=_) rfl];unfold zi mR Eh;generalize ak.all (mQ kk ps sy st e)=b1,aJ.all (bU kk ps)=b2,fin.all (bU kk ps)=b3,aR kk ps=b4,aJ.map W.d=es1,fin.map W.d=es2,ak.map (Ar.d e)=Yb at*;clear o1 o2 o3 hl;generalize aJ.length=m1,fin.length=m2,ak.length=m3 at*;unfold gI aO bD at*;cases b4
 ·simp[f1026,t4]
 by_cases c1:1<=sy
 rotate_left
 ·have c1':sy<1:=ae;simp[f1026,t4,c1,c1']
 have c1':¬ sy<1:=ae
 by_cases c2:sy<=32
 rotate_left
 ·have c2':32<sy:=ae;simp[f1026,t4,c1,c1',c2,c2']
 have c2':¬ 32<sy:=ae
 by_cases c3:0<=st
 rotate_left
 ·have c3':st<0:=ae;simp[f1026,t4,c1,c1',c2,c2',c3,c3']
 have c3':¬ st<0:=ae
 by_cases c4:st<=64
 rotate_left
 ·have ZO:64<st:=ae;simp[f1026,t4,c1,c1',c2,c2',c3,c3',c4,ZO]
 have ZO:¬ 64<st:=ae
 by_cases c5:(m1:Int)=st
 rotate_left
 ·have ZP:((m1:Int) != st)=true:=by simpa using c5
  simp[f1026,t4,c1,c1',c2,c2',c3,c3',c4,ZO,c5,ZP,n1]
 by_cases c6:(m2:Int)=st
 rotate_left
 ·have ZP:((m1:Int) != st)=false:=by simpa using c5
  have c6':((m2:Int) != st)=true:=by simpa using c6
  simp[f1026,t4,c1,c1',c2,c2',c3,c3',c4,ZO,ZP,c6,c6',n1,n2]
 have ZP:((m1:Int) != st)=false:=by simpa using c5
 have c6':((m2:Int) != st)=false:=by simpa using c6
 have d5:decide ((m1:Int)=st)=true:=by simpa using c5
 have d6:decide ((m2:Int)=st)=true:=by simpa using c6
 rw[d5,d6];clear c5 c6 d5 d6
 by_cases c7:(m3:Int)<=2048
 rotate_left
 ·have c7':2048<(m3:Int):=ae;simp[f1026,t4,c1,c1',c2,c2',c3,c3',c4,ZO,ZP,c6',c7,c7',n1,n2,n3]
 have c7':¬ 2048<(m3:Int):=ae;cases b1
 ·simp[f1026,t1,t4,c1,c1',c2,c2',c3,c3',c4,ZO,ZP,c6',c7,c7',n1,n2,n3,FV.aA,FV.aT,ai.aA]
 cases b2
 ·simp[f1026,t1,t2,t4,c1,c1',c2,c2',c3,c3',c4,ZO,ZP,c6',c7,c7',n1,n2,n3,FV.aA,FV.aT,ai.aA]
 ·simp[f1026,t1,t2,t3,t4,c1,c1',c2,c2',c3,c3',c4,ZO,ZP,c6',c7,c7',n1,n2,n3,FV.aA,FV.aT,ai.aA]
end
section
variable {α:Type} {e:α->W} {pl:α->α->α} {z:W} {bT:α->Bool} {G:Nat->α->Prop} {m:Nat} {kk:Int} {ps:List Int}
theorem TL (kk:Int)(ps:List Int)(hl:ps.length<=1000000):Ca E1 1062 [.d (bD kk ps)] (.d (bD kk ps),none):=by
 have hll:(LK .i64 ps).length<=1000000:=by simpa[LK] using hl
 have t:∀ k,CL E1 k 1098 [.d (.s 1 (LK .i64 ps))] []=some (.d (.s 1 (LK .i64 ps)),none):=fun k=>by
  have hp:E1.iK 1098=some (xN 1):=rfl;rw[iZ];unfold dx enter;rw[hp];simp[kT,xN,hll]
 refine Ca.bO (n:=100) ?_;rw[aB rfl (aN 1062 f1062:E1.fn _=_) rfl];unfold bD;simp[f1062,t]
def IB (s:Nat)(out:FV)(L:List ai)(aq:List D):Prop:=(out=.d (.n 8)/\aq=[])\/∃ i az,i≠s/\out=.ls (.loc i) az 8 0 aq.length/\L[i]?=some (.row az 8 aq)
def acL:aF:=f1063.body.r.r.l.r.bl.lp
def OU (es:List D)(out:FV)(j:Nat)(t:FV)(L:List ai):St :=
 (st0 [.u,.u,rL 0,.u,out,.u,.d (.s 8 es),dI es.length,dI j,t] L)
theorem TM (ws:List W)(j:Nat)(out:FV)(L:List ai)(aq:List D)(x z:W)(hn:ws.length<=1000000)(h0:L[0]?=some (aK kk ps))(hx:ws[j]?=some x)(ho:IB 0 out L aq)(has:aq.length<=1000000)
  (hz:Ca E1 26 [.d (bD kk ps)] (.d z.d,none)) (hp:Ca E1 14 [.d (bD kk ps),.d x.d,.d z.d] (.d x.d,none)) :
  ∃ out' L',Ex E1 acL (OU (ws.map W.d) out j .u L) (.norm,OU (ws.map W.d) out' (j+1) .u L')/\L'[0]?=some (aK kk ps)/\IB 0 out' L' (aq++[x.d]):=by
 obtain⟨K,hK,t1,t2⟩:=(hz.j hp.any).at 0;have hj:j<ws.length:=(aS hx)
 have hj0:(0:Int)<=(j:Int):=ae;have aP:av .i64 ((j:Int)+1)=(j:Int)+1:=wrap_i64 ae;have hk1:((j+1:Nat):Int)=(j:Int)+1:=ae;have e1:(ws.map W.d)[j]?=some x.d:=by simp[hx]
 have l0:0<L.length:=(aS h0)
 have g0:∀ X,(L++X)[0]?=some (aK kk ps):=fun X=>by rw[Qa0 l0];exact h0
 have sA:∀ b b':ai,(L++[b]).set L.length b'=L++[b']:=fun b b'=>by simp
 have hel:(ws.map W.d).length=ws.length:=aC;rcases ho with ⟨rfl,rfl⟩|⟨i,az,hi0,rfl,hrow⟩
 ·refine⟨.ls (.loc (L.length+1)) 0 8 0 1,L++[.box (x.d.cells.map .d),.row 0 8 [x.d]],?_,g0 _,.inr ⟨L.length+1,0,ae,rfl,by rw[Qb1 ae];simp⟩⟩;obtain⟨s,l1,l2,c,b,u,p,q,ex⟩:=x.bq;obtain⟨zs,Gn,Gp,zc,zb,zu,zp,Ic,ez⟩:=z.bq;simp only[ex,ez]at t1 t2 e1 ⊢;unfold aK bD wD at*;generalize LK .i64 ps=l9,ws.map W.d=es at*;have i0:=idx e1;have j0:=fun X=>idx (g0 X)
  have dw:j<es.length:=(aS e1)
  have hjl:(j:Int)<(es.length:Int):=ae;refine Ex.of (n:=K+300) ?_;unfold OU;rw[hk1];simp[acL,f1063,t1,t2,hj0,dw,hjl,aP,e1,i0,j0,g0,h0,sA,most]
 ·have li:i<L.length:=(aS hrow)
  have gi:∀ X,(L++X)[i]?=some (.row az 8 aq):=fun X=>by rw[Qa0 li];exact hrow
  have si:∀ X r,(L++X).set i r=L.set i r++X:=fun X r=>Qq1 _ _ li
  have TE:aq.take aq.length=aq:=Qj0;have m1:(aq.length+1)*128<=1099511627776:=ae;have m2:aq.length+1<=1099511627776:=ae;refine⟨.ls (.loc i) (az+1) 8 0 (aq.length+1),L.set i (.row (az+1) 8 (aq++[x.d]))++[.box (x.d.cells.map .d)],?_,?_,.inr ⟨i,az+1,hi0,aC,?_⟩⟩
  ·obtain⟨s,l1,l2,c,b,u,p,q,ex⟩:=x.bq;obtain⟨zs,Gn,Gp,zc,zb,zu,zp,Ic,ez⟩:=z.bq;simp only[ex,ez]at t1 t2 e1 ⊢;unfold aK bD wD at*;generalize ws.map W.d=es at*;have i0:=idx e1;have j0:=fun X=>idx (g0 X)
   have ji:=fun X=>idx (gi X)
   have dw:j<es.length:=(aS e1)
   have hjl:(j:Int)<(es.length:Int):=ae;refine Ex.of (n:=K+300) ?_;unfold OU;rw[hk1];simp[acL,f1063,t1,t2,hj0,dw,hjl,aP,e1,i0,j0,ji,g0,h0,sA,most,gi,si,TE,m1,m2]
  ·rw[Qa0 (by simpa using l0),Qc0 hi0];exact h0
  ·rw[Qa0 (by simpa using li),Qd0 li]
theorem MN (ws:List W)(z:W)(hn:ws.length<=1000000)(hz:Ca E1 26 [.d (bD kk ps)] (.d z.d,none))(hp:∀ x ∈ ws,Ca E1 14 [.d (bD kk ps),.d x.d,.d z.d] (.d x.d,none)) :
  Ca E1 1063 [.d (bD kk ps),.d (.s 8 (ws.map W.d))] (.d (.s 8 (ws.map W.d)),none):=by
 have hff:∀ (l:List W) (p:List D),l.foldl (fun p x=>p++[x.d]) p=p++l.map W.d:=by
  intro l
  induction l with
  | nil=>intro p;simp
  | cons a l ih=>intro p;rw[Qp0,ih];simp
 have hel:(ws.map W.d).length=ws.length:=aC;obtain⟨r,h1,out,L,h2,h3⟩:=Ex.fold (E:=E1) (b:=acL) ws (fun p x=>p++[x.d]) []
  (fun j acc st=>∃ out L,st=OU (ws.map W.d) out j .u L/\L[0]?=some (aK kk ps)/\IB 0 out L acc/\acc.length=j)
  (fun acc r=>∃ out L,r=(.exit 0,OU (ws.map W.d) out ws.length (dB false) L)/\IB 0 out L acc)
  (fun j x st hx ⟨out,L,hst,g0,g1,g2⟩=>by
   subst hst;have hj:j<ws.length:=(aS hx)
   obtain⟨out',L',k1,k2,k3⟩:=TM (kk:=kk) (ps:=ps) ws j out L _ x z hn g0 hx g1 ae hz (hp x (Qb2 hx));exact⟨_,k1,out',L',rfl,k2,k3,by rw[Qb0,g2];rfl⟩)
  (fun st ⟨out,L,hst,g0,g1,g2⟩=>by
   subst hst;refine⟨_,Ex.of (n:=60) (r:=(.exit 0,OU (ws.map W.d) out ws.length (dB false) L)) ?_,aC,out,L,rfl,g1⟩;unfold OU;generalize ws.map W.d=es at*;rw[<-hel];generalize es.length=n at*;simp[acL,f1063])
  (st:=OU (ws.map W.d) (.d (.n 8)) 0 .u [aK kk ps]) ⟨_,_,rfl,rfl,.inl ⟨rfl,rfl⟩,rfl⟩
 subst h2;rw[hff,Qn0]at h3;have sA:Ex E1 f1063.body.l (st0 (.d (bD kk ps)::.d (.s 8 (ws.map W.d))::zf) [])
   (.norm,(st0 (.u::.d (.s 8 (ws.map W.d))::rL 0::nO) [aK kk ps])):=by
  apply e6;unfold bD aK;simp[f1063]
 have sB := nx sA f1063.body.r.l (st0 (.u::.d (.s 8 (ws.map W.d))::rL 0::.u::.d (.n 8)::iO) [aK kk ps]) (by
  apply e6;simp[f1063])
 have sC := nx sB f1063.body.r.r.l.l (OU (ws.map W.d) (.d (.n 8)) 0 .u [aK kk ps]) (by
  apply e6;unfold OU;simp[f1063])
 have sD:Ex E1 f1063.body.r.r.r (OU (ws.map W.d) out ws.length (dB false) L) (.ret,(st0 (.u::.u::.u::out::qm) L)):=by
  apply e6;unfold OU;simp[f1063]
 refine Ca.body (o:=.ret) rfl (aN 1063 f1063:E1.fn _=_) rfl (sA.seq (sB.seq (Ex.seq (sC.seq (Ex.block h1)) sD))) aC ?_;generalize ws.map W.d=es at*;rcases h3 with ⟨rfl,rfl⟩|⟨i,az,_,rfl,hrow⟩
 ·simp[show f1063.res=[.var 3] from rfl,show f1063.ref=false from rfl]
 ·have h9:ai.view az 8 0 es.length (.row az 8 es)=some es:=by simp[ai.view]
  simp[show f1063.res=[.var 3] from rfl,show f1063.ref=false from rfl,hrow,h9]
def nV (pl:α->α->α)(bT:α->Bool)(l:List (Ar α)):List (Ar α):=(di pl l).filter fun a => !bT a.x
theorem Dj (kk:Int)(ps:List Int)(sy st:Int)(aJ fin ak:List D)(h:Ca E1 1026 [.d (gI kk ps sy st aJ fin ak)] (dB false,none)) :
  Ca E1 1024 [.d (gI kk ps sy st aJ fin ak)] (.d (.t [gI 0 [] 0 0 [] [] [],vI 4]),none):=by
 obtain⟨N,t⟩:=h.get;refine Ca.bO (n:=N+200) ?_;rw[aB rfl (k1024:E1.fn _=_) rfl];unfold gI at*;have e0:LK .i64 []=[]:=rfl;rw[e0];simp[f1024,t,lY]
theorem v_ (hW:ML kk ps e pl z bT G m)(sy st:Int)(aJ fin:List α)(ak:List (Ar α))(hl:ps.length<=1000000)(hn:ak.length<20)(hm:ak.length<m)(h1:aJ.length<=1000000)(h2:fin.length<=1000000)
  (g1:∀ x ∈ aJ,G 1 x) (g2:∀ x ∈ fin,G 1 x) (g3:∀ a ∈ ak,G 1 a.x) (hv:Ca E1 1026 [.d (mR kk ps sy st (aJ.map e) (fin.map e) e ak)] (dB true,none)) :
  Ca E1 1024 [.d (mR kk ps sy st (aJ.map e) (fin.map e) e ak)] (.d (.t [mR kk ps sy st (aJ.map e) (fin.map e) e (nV pl bT ak),vI 0]),none):=by
 obtain⟨N1,t1⟩:=hv.any;obtain⟨N2,t2⟩:=(TL kk ps hl).any;obtain⟨N3,t3⟩:=(MN (kk:=kk) (ps:=ps) (aJ.map e) z (by simpa using h1) hW.zero (fun x hx=>by
  obtain⟨a,ha,rfl⟩:=Qj2.1 hx;exact hW.pz a (g1 a ha))).any
 obtain⟨N4,t4⟩:=(MN (kk:=kk) (ps:=ps) (fin.map e) z (by simpa using h2) hW.zero (fun x hx=>by
  obtain⟨a,ha,rfl⟩:=Qj2.1 hx;exact hW.pz a (g2 a ha))).any
 obtain⟨N5,t5⟩:=(Ya hW ak hn hm g3).any;obtain⟨K,hK⟩:∃ K,K=N1+N2+N3+N4+N5:=⟨_,rfl⟩
 replace t1:=t1 K ae;replace t2:=t2 K ae;replace t3:=t3 K ae;replace t4:=t4 K ae;replace t5:=t5 K ae;rw[show(di pl ak).filter (fun a => !bT a.x)=nV pl bT ak from rfl]at t5;refine Ca.bO (n:=K+200) ?_;rw[aB rfl (k1024:E1.fn _=_) rfl];unfold mR gI bD at*;generalize (nV pl bT ak).map (Ar.d e)=es4,ak.map (Ar.d e)=Yb,(aJ.map e).map W.d=es1,(fin.map e).map W.d=es2 at*;clear hv;simp[f1024,t1,t2,t3,t4,t5,lY]
end
end Fi.S
