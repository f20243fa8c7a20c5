import Derived.Test.YtgngjdakilfmoaaGreatDoorCR
set_option linter.unusedVariables false
set_option linter.unusedSimpArgs false
noncomputable section
namespace Fi.S
open Go Fi
set_option maxHeartbeats 8000000
section
variable {α:Type} {e:α->W}
def jh (kk:Int)(ps:List Int)(sy st:Int)(bg fin aJ:List D):D:=.a [vI kk,.s 1 (LK .i64 ps),vI sy,vI st,.s 8 bg,.s 8 fin,.s 11 aJ]
def bu (kk:Int)(ps:List Int)(sy st:Int)(bg fin aJ:List D):ah:=.box [dI kk,.d (.s 1 (LK .i64 ps)),dI sy,dI st,.d (.s 8 bg),.d (.s 8 fin),.d (.s 11 aJ)]
theorem zy (kk:Int)(ps:List Int)(sy st:Int)(bg fin aJ:List D)(n:Nat):ah.az n (bu kk ps sy st bg fin aJ)=bu kk ps sy st bg fin aJ :=
 mM [vI kk,.s 1 (LK .i64 ps),vI sy,vI st,.s 8 bg,.s 8 fin,.s 11 aJ] n
def stB (x st:Int):Bool:=decide (0<=x)&&decide (x<st)
theorem zz (x kk:Int)(ps:List Int)(sy st:Int)(bg fin aJ:List D)(B:List ah)(r0:Nat)(hB:B[r0]?=some (bu kk ps sy st bg fin aJ))(m:Nat) :
  CL E1 (m+100) 1106 [dI x,.r (.old r0) 0] B=some (dB (stB x st),none):=by
 have i0:=idx hB;have l0:r0<B.length:=(aT hB)
 rw[aA rfl (aO 1106 f1106:E1.fn _=_) rfl];unfold bu stB at*
 by_cases h1:0<=x
 ·simp[f1106,hB,i0,l0,h1]
 ·have h2:x<0:=ae;simp[f1106,hB,i0,l0,h1,h2]
def Ic (kk:Int)(ps:List Int)(sy st:Int)(e:α->W)(a:Ar α):Bool:=stB a.f st&&(stB a.t st&&(decide (0<=a.l)&&(decide (a.l<=sy)&&fH kk ps (e a.x))))
theorem RO (kk:Int)(ps:List Int)(sy st:Int)(bg fin aJ:List D)(a:Ar α)(hl:ps.length<=1000000)(hw:(e a.x).OK) :
  Ca E1 1067 [.d (a.d e),.d (jh kk ps sy st bg fin aJ)] (dB (Ic kk ps sy st e a),none):=by
 obtain⟨N,t⟩:=(Ca.gM (CY kk ps (e a.x) hl hw)).get;have ts:∀ (x:Int) (b:ah) m,(∀ n,ah.az n b=b)->CL E1 (m+100) 1106 [dI x,.r (.old 1) 0] [b,bu kk ps sy st bg fin aJ]=some (dB (stB x st),none) :=
  fun x b m _=>zz x kk ps sy st bg fin aJ _ 1 rfl m
 have t1:=fun b m=>zz a.f kk ps sy st bg fin aJ [b,bu kk ps sy st bg fin aJ] 1 rfl m
 have t2:=fun b m=>zz a.t kk ps sy st bg fin aJ [b,bu kk ps sy st bg fin aJ] 1 rfl m
 have ho:=zy kk ps sy st bg fin aJ;refine Ca.bQ (n:=N+400) ?_;rw[aA rfl (aO 1067 f1067:E1.fn _=_) rfl];obtain⟨s,l1,l2,c,b,u,p,q,ew,ex⟩:=a.iA e;rw[ew]at t;rw[ex];unfold Ic;generalize fH kk ps (e a.x)=ck at*;clear ts ew ex hw;generalize stB a.f st=s1,stB a.t st=s2 at*;generalize a.f=af,a.l=al,a.t=ta at*;unfold jh bu aU wD rV at*;cases s1
 ·simp[f1067,t1,FV.az,FV.aP,ah.az]
 ·cases s2
  ·simp[f1067,t1,t2,FV.az,FV.aP,ah.az]
  ·by_cases h1:0<=al
   ·by_cases h2:al<=sy
    ·simp[f1067,t,t1,t2,h1,h2,FV.az,FV.aP,ah.az]
    ·have h3:sy<al:=ae;simp[f1067,t1,t2,h1,h2,h3,FV.az,FV.aP,ah.az]
   ·have h3:al<0:=ae;simp[f1067,t1,t2,h1,h3,FV.az,FV.aP,ah.az]
theorem KN (kk:Int)(ps:List Int)(sy st:Int)(bg fin aJ:List D)(a:Ar α)(hl:ps.length<=1000000)(hw:(e a.x).OK)(r0:Nat) :
  ∃ N,∀ B:List ah,B[r0]?=some (bu kk ps sy st bg fin aJ)->∀ m,CL E1 (N+m) 1066 [.d (a.d e),.r (.old r0) 0] B=some (dB (!Ic kk ps sy st e a),none):=by
 obtain⟨N,t⟩:=(RO (e:=e) kk ps sy st bg fin aJ a hl hw).get;refine⟨N+100,fun B hB m => ?_⟩;have l0:r0<B.length:=(aT hB)
 have gB:∀ X,(B++X)[r0]?=some (bu kk ps sy st bg fin aJ):=fun X=>by rw[Qa0 l0];exact hB
 obtain⟨s,l1,l2,c,i,u,p,q,ew,ex⟩:=a.iA e;rw[ex]at t ⊢;generalize Ic kk ps sy st e a=r at*;unfold bu jh rV at*;rw[show N+100+m=(N+m)+100 by omega,aA rfl (aO 1066 f1066:E1.fn _=_) rfl];replace t:=fun k=>dC (t 0) (show N+0<=N+m+k by omega)
 simp[f1066,t,gB]
theorem RP (kk:Int)(ps:List Int)(w:W)(hl:ps.length<=1000000)(hw:w.OK)(r0:Nat) :
  ∃ N,∀ B:List ah,B[r0]?=some (aR kk ps)->∀ m,CL E1 (N+m) 1108 [.d w.d,.r (.old r0) 0] B=some (dB (!fH kk ps w),none):=by
 obtain⟨N,t⟩:=(Ca.gM (CY kk ps w hl hw)).get;refine⟨N+100,fun B hB m => ?_⟩;have l0:r0<B.length:=(aT hB)
 have gB:∀ X,(B++X)[r0]?=some (aR kk ps):=fun X=>by rw[Qa0 l0];exact hB
 obtain⟨s,l1,l2,c,i,u,p,q,ew⟩:=w.aH;rw[ew]at t ⊢;generalize fH kk ps w=r at*;unfold aR aU wD at*;rw[show N+100+m=(N+m)+100 by omega,aA rfl (aO 1108 f1108:E1.fn _=_) rfl];replace t:=fun k=>dC (t 0) (show N+0<=N+m+k by omega)
 simp[f1108,t,gB]
def iwL:aF:=f1139.body.r.l.r.bl.lp
def WQ (g r0:Nat)(es:List D)(B:List ah)(j:Nat)(t:FV):St :=
 {vars:=[.d (.s 8 es),.f g [] [.r (.old r0) 0],.u,.u,dI es.length,dI j,t,.u],base:=B,loc:=[],aX:=false}
theorem RQ (g r0:Nat)(ws:List W)(p:W->Bool)(B:List ah)(hO:∀ n,B.map (ah.az n)=B)(hn:ws.length<=1000000)(hc:∀ a ∈ ws,∃ N,∀ m,CL E1 (N+m) g [.d a.d,.r (.old r0) 0] B=some (dB (p a),none)) :
  ∃ N,∀ m,CL E1 (N+m) 1139 [.d (.s 8 (ws.map W.d)),.f g [] [.r (.old r0) 0]] B=some (.d (.v (.int .i64 (match ws.findIdx? p with|some j=>(j:Int)|none=>-1))),none):=by
 have hl:(ws.map W.d).length=ws.length:=aC;have hloop:=Ex.DV (E:=E1) (b:=iwL) ws p (fun j=>WQ g r0 (ws.map W.d) B j .u) (.exit 0,WQ g r0 (ws.map W.d) B ws.length (dB false)) (fun j=>(.ret,{vars:=(.u::.u::dI j::n_),base:=B,loc:=[],aX:=false})) aC aC
  (fun j a ha=>by
   obtain⟨N,t⟩:=hc a (Qa2 ha);have hj:j<ws.length:=(aT ha)
   have hjn:(j:Int)<(ws.length:Int):=ae;have hj0:(0:Int)<=(j:Int):=ae;have aW:ak .i64 ((j:Int)+1)=(j:Int)+1:=wrap_i64 ae;have hk1:((j+1:Nat):Int)=(j:Int)+1:=ae;have e1:(ws.map W.d)[j]?=some a.d:=by simp[ha]
   obtain⟨s,l1,l2,c,i,u,q,ps,ex⟩:=a.aH;rw[ex]at t e1;unfold wD at*;generalize ws.map W.d=es at*;have i0:=idx e1;generalize p a=pa at*;refine Ex.of (n:=N+100) ?_;have jJ:j<es.length:=(aT e1)
   have hjl:(j:Int)<(es.length:Int):=ae;unfold WQ;cases pa
   ·rw[if_neg aC,hk1];simp[iwL,f1139,t,hj0,hjn,jJ,hjl,aW,e1,i0,hO,FV.az,FV.aP]
   ·rw[if_pos rfl];simp[iwL,f1139,t,hj0,hjn,jJ,hjl,e1,i0,hO,FV.az,FV.aP])
  (by
   apply e6;unfold WQ;generalize ws.map W.d=es at*;rw[<-hl];generalize es.length=n at*;simp[iwL,f1139])
 have h0:Ex E1 f1139.body.l (WQ g r0 (ws.map W.d) B 0 .u |> fun s=>{s with vars:=(.d (.s 8 (ws.map W.d))::.f g [] [.r (.old r0) 0]::uV)}) (.norm,WQ g r0 (ws.map W.d) B 0 .u |> fun s=>{s with vars:=(.d (.s 8 (ws.map W.d))::.f g [] [.r (.old r0) 0]::uV)}):=by
  apply e6;unfold WQ;simp[f1139]
 have h1 := nx h0 f1139.body.r.l.l (WQ g r0 (ws.map W.d) B 0 .u) (by
  apply e6;unfold WQ;simp[f1139])
 cases hf:ws.findIdx? p with
 | some j =>
  rw[hf]at hloop;exact qN (E:=E1) (g:=1139) (F:=f1139) (B:=B) rfl (k1139:E1.fn _=_) rfl (Ex.seq h0 (Ex.gp (Ex.seq h1 (Ex.dR hloop)))) aC (by simp[finish,mo,GY,show f1139.res=[.var 2] from rfl,show f1139.ref=false from rfl,gN,leaves,fD,oneOf,kJ,D.norm,FV.rows,FV.om,aK])
 | none =>
  rw[hf]at hloop;have h2:Ex E1 f1139.body.r.r (WQ g r0 (ws.map W.d) B ws.length (dB false)) (.ret,{vars:=(.u::.u::dI (-1)::n_),base:=B,loc:=[],aX:=false}):=by
   apply e6;unfold WQ;simp[f1139]
  exact qN (E:=E1) (g:=1139) (F:=f1139) (B:=B) rfl (k1139:E1.fn _=_) rfl (Ex.seq h0 (Ex.seq (Ex.seq h1 (Ex.block hloop)) h2)) aC (by simp[finish,mo,GY,show f1139.res=[.var 2] from rfl,show f1139.ref=false from rfl,gN,leaves,fD,oneOf,kJ,D.norm,FV.rows,FV.om,aK])
end
set_option maxRecDepth 10000
section
variable {α:Type} {e:α->W}
theorem PI {β:Type}(l:List β)(p:β->Bool):decide ((0:Int)<=(match l.findIdx? (fun a => !p a) with|some j=>(j:Int)|none=>-1)) = !l.all p:=by
 cases h:l.findIdx? (fun a => !p a) with
 | some j =>
  obtain⟨h1,h2,_⟩:=Qu2.1 h;have:l.all p=false:=by
   rw[List.all_eq_false];exact⟨_,Qi0 h1,by simpa using h2⟩
  simp only[this,Bool.not_false,decide_eq_true_eq];omega
 | none =>
  have:l.all p=true:=by
   rw[Qh2];intro a ha;simpa using Xj1.1 h a ha
  simp only[this,Xg1,decide_eq_false_iff_not];omega
theorem KO (g r0:Nat)(aq:List (Ar α))(p:Ar α->Bool)(B:List ah)(hO:∀ n,B.map (ah.az n)=B)(hn:aq.length<=1000000)(hc:∀ a ∈ aq,∃ N,∀ m,CL E1 (N+m) g [.d (a.d e),.r (.old r0) 0] B=some (dB (!p a),none)) :
  ∃ N,∀ m,CL E1 (N+m) 1065 [.d (.s 11 (aq.map (Ar.d e))),.f g [] [.r (.old r0) 0]] B=some (dB (!aq.all p),none):=by
 obtain⟨N,t⟩:=D6 g r0 aq (fun a => !p a) B hO hn hc;have hf:=PI aq p;refine⟨N+100,fun m => ?_⟩;rw[show N+100+m=(N+m)+100 by omega,aA rfl (aO 1065 f1065:E1.fn _=_) rfl];replace t:=fun k=>dC (t 0) (show N+0<=N+m+k by omega)
 clear hc;generalize aq.map (Ar.d e)=es at*;cases h:aq.findIdx? (fun a => !p a) with
 | some j =>
  rw[h]at t hf;have hb:aq.all p=false:=by
   have h9:(0:Int)<=(j:Int):=ae;simp only[h9,decide_true]at hf;cases hh:aq.all p with
   | true=>rw[hh]at hf;cases hf
   | false=>rfl
  rw[hb];simp[f1065,t,hO,FV.az,FV.aP]
 | none =>
  rw[h]at t hf;have hb:aq.all p=true:=by
   cases hh:aq.all p with
   | true=>rfl
   | false=>rw[hh]at hf;cases hf
  rw[hb];simp[f1065,t,hO,FV.az,FV.aP]
theorem Ie (g r0:Nat)(ws:List W)(p:W->Bool)(B:List ah)(hO:∀ n,B.map (ah.az n)=B)(hn:ws.length<=1000000)(hc:∀ a ∈ ws,∃ N,∀ m,CL E1 (N+m) g [.d a.d,.r (.old r0) 0] B=some (dB (!p a),none)) :
  ∃ N,∀ m,CL E1 (N+m) 1107 [.d (.s 8 (ws.map W.d)),.f g [] [.r (.old r0) 0]] B=some (dB (!ws.all p),none):=by
 obtain⟨N,t⟩:=RQ g r0 ws (fun a => !p a) B hO hn hc;have hf:=PI ws p;refine⟨N+100,fun m => ?_⟩;rw[show N+100+m=(N+m)+100 by omega,aA rfl (aO 1107 f1107:E1.fn _=_) rfl];replace t:=fun k=>dC (t 0) (show N+0<=N+m+k by omega)
 clear hc;generalize ws.map W.d=es at*;cases h:ws.findIdx? (fun a => !p a) with
 | some j =>
  rw[h]at t hf;have hb:ws.all p=false:=by
   have h9:(0:Int)<=(j:Int):=ae;simp only[h9,decide_true]at hf;cases hh:ws.all p with
   | true=>rw[hh]at hf;cases hf
   | false=>rfl
  rw[hb];simp[f1107,t,hO,FV.az,FV.aP]
 | none =>
  rw[h]at t hf;have hb:ws.all p=true:=by
   cases hh:ws.all p with
   | true=>rfl
   | false=>rw[hh]at hf;cases hf
  rw[hb];simp[f1107,t,hO,FV.az,FV.aP]
theorem RS (kk:Int)(ps:List Int)(n:Nat):ah.az n (aR kk ps)=aR kk ps:=mM [vI kk,.s 1 (LK .i64 ps)] n
theorem D7 (kk:Int)(ps:List Int)(ws:List W)(hl:ps.length<=1000000)(hn:ws.length<=1000000)(hw:∀ w ∈ ws,w.OK) :
  Ca E1 1068 [.d (aU kk ps),.d (.s 8 (ws.map W.d))] (dB (ws.all (fH kk ps)),none):=by
 obtain⟨N,t⟩:=Ie 1108 0 ws (fH kk ps) [aR kk ps] (fun n=>by simp[RS]) hn (fun w h=>by
  obtain⟨N,t⟩:=RP kk ps w hl (hw w h) 0;exact⟨N,t _ rfl⟩)
 refine Ca.bQ (n:=N+100) ?_;rw[aA rfl (aO 1068 f1068:E1.fn _=_) rfl];generalize ws.all (fH kk ps)=r,ws.map W.d=es at*;unfold aU aR at*;simp[f1068,t,FV.az,FV.aP,ah.az]
def WR (kk:Int)(ps:List Int)(sy st:Int)(n1 n2 n3:Nat):Bool :=
 aM kk ps&&(decide (1<=sy)&&(decide (sy<=32)&&(decide (0<=st)&&(decide (st<=64)&&(decide ((n1:Int)=st)&&(decide ((n2:Int)=st)&&decide ((n3:Int)<=2048)))))))
def aa8 (kk:Int)(ps:List Int)(sy st:Int)(bg fin:List W)(e:α->W)(aJ:List (Ar α)):Bool :=
 WR kk ps sy st bg.length fin.length aJ.length&&(aJ.all (Ic kk ps sy st e)&&(bg.all (fH kk ps)&&fin.all (fH kk ps)))
def Jf (kk:Int)(ps:List Int)(sy st:Int)(bg fin:List W)(e:α->W)(aJ:List (Ar α)):D:=jh kk ps sy st (bg.map W.d) (fin.map W.d) (aJ.map (Ar.d e))
theorem WS (kk:Int)(ps:List Int)(sy st:Int)(bg fin:List W)(aJ:List (Ar α))(hl:ps.length<=1000000)(h1:bg.length<=1000000)(h2:fin.length<=1000000)(h3:aJ.length<=1000000)
  (o1:∀ w ∈ bg,w.OK) (o2:∀ w ∈ fin,w.OK) (o3:∀ a ∈ aJ,(e a.x).OK) :
  Ca E1 1026 [.d (Jf kk ps sy st bg fin e aJ)] (dB (aa8 kk ps sy st bg fin e aJ),none):=by
 obtain⟨N1,t1⟩:=KO (e:=e) 1066 0 aJ (Ic kk ps sy st e) [bu kk ps sy st (bg.map W.d) (fin.map W.d) (aJ.map (Ar.d e))] (fun n=>by simp[zy]) h3 (fun a h=>by
  obtain⟨N,t⟩:=KN (e:=e) kk ps sy st (bg.map W.d) (fin.map W.d) (aJ.map (Ar.d e)) a hl (o3 a h) 0;exact⟨N,t _ rfl⟩)
 obtain⟨N2,t2⟩:=(D7 kk ps bg hl h1 o1).any;obtain⟨N3,t3⟩:=(D7 kk ps fin hl h2 o2).any;obtain⟨N4,t4⟩:=(Ca.gM (Ca.bQ (qE 0 kk ps))).any;obtain⟨K,hK⟩:∃ K,K=N1+N2+N3+N4:=⟨_,rfl⟩
 replace t1:=fun m=>dC (t1 0) (show N1+0<=K+m by omega)
 replace t2:=t2 K ae;replace t3:=t3 K ae;replace t4:=t4 K ae;have ho:=zy kk ps sy st (bg.map W.d) (fin.map W.d) (aJ.map (Ar.d e));have n1:(bg.map W.d).length=bg.length:=aC;have n2:(fin.map W.d).length=fin.length:=aC;have n3:(aJ.map (Ar.d e)).length=aJ.length:=aC;refine Ca.bQ (n:=K+300) ?_;rw[aA rfl (aO 1026 f1026:E1.fn _=_) rfl];unfold aa8 Jf WR;generalize aJ.all (Ic kk ps sy st e)=b1,bg.all (fH kk ps)=b2,fin.all (fH kk ps)=b3,aM kk ps=b4,bg.map W.d=es1,fin.map W.d=es2,aJ.map (Ar.d e)=es3 at*;clear o1 o2 o3 hl;generalize bg.length=m1,fin.length=m2,aJ.length=m3 at*;unfold jh bu aU at*;cases b4
 ·simp[f1026,t4]
 by_cases c1:1<=sy
 rotate_left
 ·have c1':sy<1:=ae;simp[f1026,t4,c1,c1']
 have c1':¬ sy<1:=ae
 by_cases c2:sy<=32
 rotate_left
 ·have c2':32<sy:=ae;simp[f1026,t4,c1,c1',c2,c2']
 have c2':¬ 32<sy:=ae
 by_cases c3:0<=st
 rotate_left
 ·have c3':st<0:=ae;simp[f1026,t4,c1,c1',c2,c2',c3,c3']
 have c3':¬ st<0:=ae
 by_cases c4:st<=64
 rotate_left
 ·have c4':64<st:=ae;simp[f1026,t4,c1,c1',c2,c2',c3,c3',c4,c4']
 have c4':¬ 64<st:=ae
 by_cases c5:(m1:Int)=st
 rotate_left
 ·have c5':((m1:Int) != st)=true:=by simpa using c5
  simp[f1026,t4,c1,c1',c2,c2',c3,c3',c4,c4',c5,c5',n1]
 by_cases c6:(m2:Int)=st
 rotate_left
 ·have c5':((m1:Int) != st)=false:=by simpa using c5
  have c6':((m2:Int) != st)=true:=by simpa using c6
  simp[f1026,t4,c1,c1',c2,c2',c3,c3',c4,c4',c5',c6,c6',n1,n2]
 have c5':((m1:Int) != st)=false:=by simpa using c5
 have c6':((m2:Int) != st)=false:=by simpa using c6
 have d5:decide ((m1:Int)=st)=true:=by simpa using c5
 have d6:decide ((m2:Int)=st)=true:=by simpa using c6
 rw[d5,d6];clear c5 c6 d5 d6
 by_cases c7:(m3:Int)<=2048
 rotate_left
 ·have c7':2048<(m3:Int):=ae;simp[f1026,t4,c1,c1',c2,c2',c3,c3',c4,c4',c5',c6',c7,c7',n1,n2,n3]
 have c7':¬ 2048<(m3:Int):=ae;cases b1
 ·simp[f1026,t1,t4,c1,c1',c2,c2',c3,c3',c4,c4',c5',c6',c7,c7',n1,n2,n3,FV.az,FV.aP,ah.az]
 cases b2
 ·simp[f1026,t1,t2,t4,c1,c1',c2,c2',c3,c3',c4,c4',c5',c6',c7,c7',n1,n2,n3,FV.az,FV.aP,ah.az]
 ·simp[f1026,t1,t2,t3,t4,c1,c1',c2,c2',c3,c3',c4,c4',c5',c6',c7,c7',n1,n2,n3,FV.az,FV.aP,ah.az]
end
section
variable {α:Type} {e:α->W} {pl:α->α->α} {z:W} {dS:α->Bool} {G:Nat->α->Prop} {m:Nat} {kk:Int} {ps:List Int}
theorem WT (kk:Int)(ps:List Int)(hl:ps.length<=1000000):Ca E1 1062 [.d (aU kk ps)] (.d (aU kk ps),none):=by
 have hll:(LK .i64 ps).length<=1000000:=by simpa[LK] using hl
 have t:∀ k,CL E1 k 1098 [.d (.s 1 (LK .i64 ps))] []=some (.d (.s 1 (LK .i64 ps)),none):=fun k=>by
  have hp:E1.jq 1098=some (zA 1):=rfl;rw[jS];unfold cz enter;rw[hp];simp[jN,zA,hll]
 refine Ca.bQ (n:=100) ?_;rw[aA rfl (aO 1062 f1062:E1.fn _=_) rfl];unfold aU;simp[f1062,t]
def KP (s:Nat)(out:FV)(L:List ah)(aq:List D):Prop:=(out=.d (.n 8)/\aq=[])\/∃ i av,i≠s/\out=.ls (.loc i) av 8 0 aq.length/\L[i]?=some (.row av 8 aq)
def acL:aF:=f1063.body.r.r.l.r.bl.lp
def RU (es:List D)(out:FV)(j:Nat)(t:FV)(L:List ah):St :=
 (st0 [.u,.u,rL 0,.u,out,.u,.d (.s 8 es),dI es.length,dI j,t] L)
theorem WU (ws:List W)(j:Nat)(out:FV)(L:List ah)(aq:List D)(x z:W)(hn:ws.length<=1000000)(h0:L[0]?=some (aR kk ps))(hx:ws[j]?=some x)(ho:KP 0 out L aq)(has:aq.length<=1000000)
  (hz:Ca E1 26 [.d (aU kk ps)] (.d z.d,none)) (hp:Ca E1 14 [.d (aU kk ps),.d x.d,.d z.d] (.d x.d,none)) :
  ∃ out' L',Ex E1 acL (RU (ws.map W.d) out j .u L) (.norm,RU (ws.map W.d) out' (j+1) .u L')/\L'[0]?=some (aR kk ps)/\KP 0 out' L' (aq++[x.d]):=by
 obtain⟨K,hK,t1,t2⟩:=(hz.j hp.any).at 0;have hj:j<ws.length:=(aT hx)
 have hj0:(0:Int)<=(j:Int):=ae;have aW:ak .i64 ((j:Int)+1)=(j:Int)+1:=wrap_i64 ae;have hk1:((j+1:Nat):Int)=(j:Int)+1:=ae;have e1:(ws.map W.d)[j]?=some x.d:=by simp[hx]
 have l0:0<L.length:=(aT h0)
 have g0:∀ X,(L++X)[0]?=some (aR kk ps):=fun X=>by rw[Qa0 l0];exact h0
 have sA:∀ b b':ah,(L++[b]).set L.length b'=L++[b']:=fun b b'=>by simp
 have hel:(ws.map W.d).length=ws.length:=aC;rcases ho with ⟨rfl,rfl⟩|⟨i,av,hi0,rfl,hrow⟩
 ·refine⟨.ls (.loc (L.length+1)) 0 8 0 1,L++[.box (x.d.cells.map .d),.row 0 8 [x.d]],?_,g0 _,.inr ⟨L.length+1,0,ae,rfl,by rw[Qc0 ae];simp⟩⟩;obtain⟨s,l1,l2,c,b,u,p,q,ex⟩:=x.aH;obtain⟨zs,wS,wT,zc,zb,zu,zp,BA,ez⟩:=z.aH;simp only[ex,ez]at t1 t2 e1 ⊢;unfold aR aU wD at*;generalize LK .i64 ps=l9,ws.map W.d=es at*;have i0:=idx e1;have j0:=fun X=>idx (g0 X)
  have jJ:j<es.length:=(aT e1)
  have hjl:(j:Int)<(es.length:Int):=ae;refine Ex.of (n:=K+300) ?_;unfold RU;rw[hk1];simp[acL,f1063,t1,t2,hj0,jJ,hjl,aW,e1,i0,j0,g0,h0,sA,most]
 ·have li:i<L.length:=(aT hrow)
  have gi:∀ X,(L++X)[i]?=some (.row av 8 aq):=fun X=>by rw[Qa0 li];exact hrow
  have si:∀ X r,(L++X).set i r=L.set i r++X:=fun X r=>Qq2 _ _ li
  have tkr:aq.take aq.length=aq:=Qk0;have m1:(aq.length+1)*128<=1099511627776:=ae;have m2:aq.length+1<=1099511627776:=ae;refine⟨.ls (.loc i) (av+1) 8 0 (aq.length+1),L.set i (.row (av+1) 8 (aq++[x.d]))++[.box (x.d.cells.map .d)],?_,?_,.inr ⟨i,av+1,hi0,aC,?_⟩⟩
  ·obtain⟨s,l1,l2,c,b,u,p,q,ex⟩:=x.aH;obtain⟨zs,wS,wT,zc,zb,zu,zp,BA,ez⟩:=z.aH;simp only[ex,ez]at t1 t2 e1 ⊢;unfold aR aU wD at*;generalize ws.map W.d=es at*;have i0:=idx e1;have j0:=fun X=>idx (g0 X)
   have ji:=fun X=>idx (gi X)
   have jJ:j<es.length:=(aT e1)
   have hjl:(j:Int)<(es.length:Int):=ae;refine Ex.of (n:=K+300) ?_;unfold RU;rw[hk1];simp[acL,f1063,t1,t2,hj0,jJ,hjl,aW,e1,i0,j0,ji,g0,h0,sA,most,gi,si,tkr,m1,m2]
  ·rw[Qa0 (by simpa using l0),Qb2 hi0];exact h0
  ·rw[Qa0 (by simpa using li),Qd1 li]
theorem PK (ws:List W)(z:W)(hn:ws.length<=1000000)(hz:Ca E1 26 [.d (aU kk ps)] (.d z.d,none))(hp:∀ x ∈ ws,Ca E1 14 [.d (aU kk ps),.d x.d,.d z.d] (.d x.d,none)) :
  Ca E1 1063 [.d (aU kk ps),.d (.s 8 (ws.map W.d))] (.d (.s 8 (ws.map W.d)),none):=by
 have hff:∀ (l:List W) (p:List D),l.foldl (fun p x=>p++[x.d]) p=p++l.map W.d:=by
  intro l
  induction l with
  | nil=>intro p;simp
  | cons a l ih=>intro p;rw[Ql1,ih];simp
 have hel:(ws.map W.d).length=ws.length:=aC;obtain⟨r,h1,out,L,h2,h3⟩:=Ex.fold (E:=E1) (b:=acL) ws (fun p x=>p++[x.d]) []
  (fun j acc st=>∃ out L,st=RU (ws.map W.d) out j .u L/\L[0]?=some (aR kk ps)/\KP 0 out L acc/\acc.length=j)
  (fun acc r=>∃ out L,r=(.exit 0,RU (ws.map W.d) out ws.length (dB false) L)/\KP 0 out L acc)
  (fun j x st hx ⟨out,L,hst,g0,g1,g2⟩=>by
   subst hst;have hj:j<ws.length:=(aT hx)
   obtain⟨out',L',k1,k2,k3⟩:=WU (kk:=kk) (ps:=ps) ws j out L _ x z hn g0 hx g1 ae hz (hp x (Qa2 hx));exact⟨_,k1,out',L',rfl,k2,k3,by rw[Qb0,g2];rfl⟩)
  (fun st ⟨out,L,hst,g0,g1,g2⟩=>by
   subst hst;refine⟨_,Ex.of (n:=60) (r:=(.exit 0,RU (ws.map W.d) out ws.length (dB false) L)) ?_,aC,out,L,rfl,g1⟩;unfold RU;generalize ws.map W.d=es at*;rw[<-hel];generalize es.length=n at*;simp[acL,f1063])
  (st:=RU (ws.map W.d) (.d (.n 8)) 0 .u [aR kk ps]) ⟨_,_,rfl,rfl,.inl ⟨rfl,rfl⟩,rfl⟩
 subst h2;rw[hff,Qv2]at h3;have sA:Ex E1 f1063.body.l (st0 (.d (aU kk ps)::.d (.s 8 (ws.map W.d))::zW) [])
   (.norm,(st0 (.u::.d (.s 8 (ws.map W.d))::rL 0::rX) [aR kk ps])):=by
  apply e6;unfold aU aR;simp[f1063]
 have sB := nx sA f1063.body.r.l (st0 (.u::.d (.s 8 (ws.map W.d))::rL 0::.u::.d (.n 8)::n_) [aR kk ps]) (by
  apply e6;simp[f1063])
 have sC := nx sB f1063.body.r.r.l.l (RU (ws.map W.d) (.d (.n 8)) 0 .u [aR kk ps]) (by
  apply e6;unfold RU;simp[f1063])
 have sD:Ex E1 f1063.body.r.r.r (RU (ws.map W.d) out ws.length (dB false) L) (.ret,(st0 (.u::.u::.u::out::uV) L)):=by
  apply e6;unfold RU;simp[f1063]
 refine Ca.body (o:=.ret) rfl (aO 1063 f1063:E1.fn _=_) rfl (sA.seq (sB.seq (Ex.seq (sC.seq (Ex.block h1)) sD))) aC ?_;generalize ws.map W.d=es at*;rcases h3 with ⟨rfl,rfl⟩|⟨i,av,_,rfl,hrow⟩
 ·simp[show f1063.res=[.var 3] from rfl,show f1063.ref=false from rfl]
 ·have h9:ah.view av 8 0 es.length (.row av 8 es)=some es:=by simp[ah.view]
  simp[show f1063.res=[.var 3] from rfl,show f1063.ref=false from rfl,hrow,h9]
def fB (pl:α->α->α)(dS:α->Bool)(l:List (Ar α)):List (Ar α):=(dF pl l).filter fun a => !dS a.x
theorem Ig (hW:TH kk ps e pl z dS G m)(sy st:Int)(bg fin:List α)(aJ:List (Ar α))(hl:ps.length<=1000000)(hn:aJ.length<20)(hm:aJ.length<m)(h1:bg.length<=1000000)(h2:fin.length<=1000000)
  (g1:∀ x ∈ bg,G 1 x) (g2:∀ x ∈ fin,G 1 x) (g3:∀ a ∈ aJ,G 1 a.x) (hv:Ca E1 1026 [.d (Jf kk ps sy st (bg.map e) (fin.map e) e aJ)] (dB true,none)) :
  Ca E1 1024 [.d (Jf kk ps sy st (bg.map e) (fin.map e) e aJ)] (.d (.t [Jf kk ps sy st (bg.map e) (fin.map e) e (fB pl dS aJ),vI 0]),none):=by
 obtain⟨N1,t1⟩:=hv.any;obtain⟨N2,t2⟩:=(WT kk ps hl).any;obtain⟨N3,t3⟩:=(PK (kk:=kk) (ps:=ps) (bg.map e) z (by simpa using h1) hW.zero (fun x hx=>by
  obtain⟨a,ha,rfl⟩:=Qg1.1 hx;exact hW.pz a (g1 a ha))).any
 obtain⟨N4,t4⟩:=(PK (kk:=kk) (ps:=ps) (fin.map e) z (by simpa using h2) hW.zero (fun x hx=>by
  obtain⟨a,ha,rfl⟩:=Qg1.1 hx;exact hW.pz a (g2 a ha))).any
 obtain⟨N5,t5⟩:=(aa7 hW aJ hn hm g3).any;obtain⟨K,hK⟩:∃ K,K=N1+N2+N3+N4+N5:=⟨_,rfl⟩
 replace t1:=t1 K ae;replace t2:=t2 K ae;replace t3:=t3 K ae;replace t4:=t4 K ae;replace t5:=t5 K ae;rw[show(dF pl aJ).filter (fun a => !dS a.x)=fB pl dS aJ from rfl]at t5;refine Ca.bQ (n:=K+200) ?_;rw[aA rfl (aO 1024 f1024:E1.fn _=_) rfl];unfold Jf jh aU at*;generalize (fB pl dS aJ).map (Ar.d e)=es4,aJ.map (Ar.d e)=es3,(bg.map e).map W.d=es1,(fin.map e).map W.d=es2 at*;clear hv;simp[f1024,t1,t2,t3,t4,t5,rH]
end
end Fi.S
