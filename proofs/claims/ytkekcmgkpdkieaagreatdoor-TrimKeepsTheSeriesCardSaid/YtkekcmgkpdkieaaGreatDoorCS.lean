import Derived.Test.YtkekcmgkpdkieaaGreatDoorCR
set_option linter.unusedVariables false
set_option linter.unusedSimpArgs false
noncomputable section
namespace Fi.S
open Go Fi
set_option maxHeartbeats 8000000
section
variable {α:Type} {e:α->W}
def iD (kk:Int)(ps:List Int)(sy st:Int)(aK fin av:List D):D:=.a [vI kk,.s 1 (LK .i64 ps),vI sy,vI st,.s 8 aK,.s 8 fin,.s 11 av]
def aX (kk:Int)(ps:List Int)(sy st:Int)(aK fin av:List D):ai:=.box [dI kk,.d (.s 1 (LK .i64 ps)),dI sy,dI st,.d (.s 8 aK),.d (.s 8 fin),.d (.s 11 av)]
theorem zL (kk:Int)(ps:List Int)(sy st:Int)(aK fin av:List D)(n:Nat):ai.aA n (aX kk ps sy st aK fin av)=aX kk ps sy st aK fin av :=
 j_ [vI kk,.s 1 (LK .i64 ps),vI sy,vI st,.s 8 aK,.s 8 fin,.s 11 av] n
def Bl (x lo hi:Int):Bool:=decide (lo<=x)&&decide (x<=hi)
def stB (x st:Int):Bool:=decide (0<=x)&&decide (x<st)
theorem zM (x kk:Int)(ps:List Int)(sy st:Int)(aK fin av:List D)(B:List ai)(r0:Nat)(hB:B[r0]?=some (aX kk ps sy st aK fin av))(m:Nat) :
  CL E1 (m+100) 1106 [dI x,.r (.old r0) 0] B=some (dB (stB x st),none):=by
 have i0:=idx hB;have l0:r0<B.length:=(aU hB)
 rw[aB rfl (aO 1106 f1106:E1.fn _=_) rfl];unfold aX stB at*
 by_cases h1:0<=x
 ·simp[f1106,hB,i0,l0,h1]
 ·have h2:x<0:=ae;simp[f1106,hB,i0,l0,h1,h2]
def qP (kk:Int)(ps:List Int)(sy st:Int)(e:α->W)(a:Ar α):Bool:=stB a.f st&&(stB a.t st&&(decide (0<=a.l)&&(decide (a.l<=sy)&&di kk ps (e a.x))))
theorem R6 (kk:Int)(ps:List Int)(sy st:Int)(aK fin av:List D)(a:Ar α)(hl:ps.length<=1000000)(hw:(e a.x).OK) :
  Ca E1 1067 [.d (a.d e),.d (iD kk ps sy st aK fin av)] (dB (qP kk ps sy st e a),none):=by
 obtain⟨N,t⟩:=(Ca.gV (Dj kk ps (e a.x) hl hw)).get;have ts:∀ (x:Int) (b:ai) m,(∀ n,ai.aA n b=b)->CL E1 (m+100) 1106 [dI x,.r (.old 1) 0] [b,aX kk ps sy st aK fin av]=some (dB (stB x st),none) :=
  fun x b m _=>zM x kk ps sy st aK fin av _ 1 rfl m
 have t1:=fun b m=>zM a.f kk ps sy st aK fin av [b,aX kk ps sy st aK fin av] 1 rfl m
 have t2:=fun b m=>zM a.t kk ps sy st aK fin av [b,aX kk ps sy st aK fin av] 1 rfl m
 have ho:=zL kk ps sy st aK fin av;refine Ca.bQ (n:=N+400) ?_;rw[aB rfl (aO 1067 f1067:E1.fn _=_) rfl];obtain⟨s,l1,l2,c,b,u,p,q,ew,ex⟩:=a.fH e;rw[ew]at t;rw[ex];unfold qP;generalize di kk ps (e a.x)=ck at*;clear ts ew ex hw;generalize stB a.f st=s1,stB a.t st=s2 at*;generalize a.f=af,a.l=al,a.t=ta at*;unfold iD aX aV wD pQ at*;cases s1
 ·simp[f1067,t1,FV.aA,FV.aT,ai.aA]
 ·cases s2
  ·simp[f1067,t1,t2,FV.aA,FV.aT,ai.aA]
  ·by_cases h1:0<=al
   ·by_cases h2:al<=sy
    ·simp[f1067,t,t1,t2,h1,h2,FV.aA,FV.aT,ai.aA]
    ·have h3:sy<al:=ae;simp[f1067,t1,t2,h1,h2,h3,FV.aA,FV.aT,ai.aA]
   ·have h3:al<0:=ae;simp[f1067,t1,t2,h1,h3,FV.aA,FV.aT,ai.aA]
theorem KR (kk:Int)(ps:List Int)(sy st:Int)(aK fin av:List D)(a:Ar α)(hl:ps.length<=1000000)(hw:(e a.x).OK)(r0:Nat) :
  ∃ N,∀ B:List ai,B[r0]?=some (aX kk ps sy st aK fin av)->∀ m,CL E1 (N+m) 1066 [.d (a.d e),.r (.old r0) 0] B=some (dB (!qP kk ps sy st e a),none):=by
 obtain⟨N,t⟩:=(R6 (e:=e) kk ps sy st aK fin av a hl hw).get;refine⟨N+100,fun B hB m => ?_⟩;have l0:r0<B.length:=(aU hB)
 have gB:∀ X,(B++X)[r0]?=some (aX kk ps sy st aK fin av):=fun X=>by rw[Qa0 l0];exact hB
 obtain⟨s,l1,l2,c,i,u,p,q,ew,ex⟩:=a.fH e;rw[ex]at t ⊢;generalize qP kk ps sy st e a=r at*;unfold aX iD pQ at*;rw[show N+100+m=(N+m)+100 by omega,aB rfl (aO 1066 f1066:E1.fn _=_) rfl];replace t:=fun k=>dL (t 0) (show N+0<=N+m+k by omega)
 simp[f1066,t,gB]
theorem R7 (kk:Int)(ps:List Int)(w:W)(hl:ps.length<=1000000)(hw:w.OK)(r0:Nat) :
  ∃ N,∀ B:List ai,B[r0]?=some (aI kk ps)->∀ m,CL E1 (N+m) 1108 [.d w.d,.r (.old r0) 0] B=some (dB (!di kk ps w),none):=by
 obtain⟨N,t⟩:=(Ca.gV (Dj kk ps w hl hw)).get;refine⟨N+100,fun B hB m => ?_⟩;have l0:r0<B.length:=(aU hB)
 have gB:∀ X,(B++X)[r0]?=some (aI kk ps):=fun X=>by rw[Qa0 l0];exact hB
 obtain⟨s,l1,l2,c,i,u,p,q,ew⟩:=w.aP;rw[ew]at t ⊢;generalize di kk ps w=r at*;unfold aI aV wD at*;rw[show N+100+m=(N+m)+100 by omega,aB rfl (aO 1108 f1108:E1.fn _=_) rfl];replace t:=fun k=>dL (t 0) (show N+0<=N+m+k by omega)
 simp[f1108,t,gB]
def iwL:aG:=f1139.body.r.l.r.bl.lp
def Xb (g r0:Nat)(es:List D)(B:List ai)(j:Nat)(t:FV):St :=
 {vars:=[.d (.s 8 es),.f g [] [.r (.old r0) 0],.u,.u,dI es.length,dI j,t,.u],base:=B,loc:=[],aR:=false}
theorem R8 (g r0:Nat)(ws:List W)(p:W->Bool)(B:List ai)(hO:∀ n,B.map (ai.aA n)=B)(hn:ws.length<=1000000)(hc:∀ a ∈ ws,∃ N,∀ m,CL E1 (N+m) g [.d a.d,.r (.old r0) 0] B=some (dB (p a),none)) :
  ∃ N,∀ m,CL E1 (N+m) 1139 [.d (.s 8 (ws.map W.d)),.f g [] [.r (.old r0) 0]] B=some (.d (.v (.int .i64 (match ws.findIdx? p with|some j=>(j:Int)|none=>-1))),none):=by
 have hl:(ws.map W.d).length=ws.length:=aC;have hloop:=Ex.xZ (E:=E1) (b:=iwL) ws p (fun j=>Xb g r0 (ws.map W.d) B j .u) (.exit 0,Xb g r0 (ws.map W.d) B ws.length (dB false)) (fun j=>(.ret,{vars:=(.u::.u::dI j::jP),base:=B,loc:=[],aR:=false})) aC aC
  (fun j a ha=>by
   obtain⟨N,t⟩:=hc a (Qa2 ha);have hj:j<ws.length:=(aU ha)
   have hjn:(j:Int)<(ws.length:Int):=ae;have hj0:(0:Int)<=(j:Int):=ae;have aS:ak .i64 ((j:Int)+1)=(j:Int)+1:=wrap_i64 ae;have hk1:((j+1:Nat):Int)=(j:Int)+1:=ae;have e1:(ws.map W.d)[j]?=some a.d:=by simp[ha]
   obtain⟨s,l1,l2,c,i,u,q,ps,ex⟩:=a.aP;rw[ex]at t e1;unfold wD at*;generalize ws.map W.d=es at*;have i0:=idx e1;generalize p a=pa at*;refine Ex.of (n:=N+100) ?_;have fJ:j<es.length:=(aU e1)
   have hjl:(j:Int)<(es.length:Int):=ae;unfold Xb;cases pa
   ·rw[if_neg aC,hk1];simp[iwL,f1139,t,hj0,hjn,fJ,hjl,aS,e1,i0,hO,FV.aA,FV.aT]
   ·rw[if_pos rfl];simp[iwL,f1139,t,hj0,hjn,fJ,hjl,e1,i0,hO,FV.aA,FV.aT])
  (by
   apply e6;unfold Xb;generalize ws.map W.d=es at*;rw[<-hl];generalize es.length=n at*;simp[iwL,f1139])
 have h0:Ex E1 f1139.body.l (Xb g r0 (ws.map W.d) B 0 .u |> fun s=>{s with vars:=(.d (.s 8 (ws.map W.d))::.f g [] [.r (.old r0) 0]::rM)}) (.norm,Xb g r0 (ws.map W.d) B 0 .u |> fun s=>{s with vars:=(.d (.s 8 (ws.map W.d))::.f g [] [.r (.old r0) 0]::rM)}):=by
  apply e6;unfold Xb;simp[f1139]
 have h1 := nx h0 f1139.body.r.l.l (Xb g r0 (ws.map W.d) B 0 .u) (by
  apply e6;unfold Xb;simp[f1139])
 cases hf:ws.findIdx? p with
 | some j =>
  rw[hf]at hloop;exact qN (E:=E1) (g:=1139) (F:=f1139) (B:=B) rfl (k1139:E1.fn _=_) rfl (Ex.seq h0 (Ex.dE (Ex.seq h1 (Ex.b_ hloop)))) aC (by simp[finish,kG,G_,show f1139.res=[.var 2] from rfl,show f1139.ref=false from rfl,gF,leaves,dX,oneOf,jI,D.norm,FV.rows,FV.nZ,aL])
 | none =>
  rw[hf]at hloop;have h2:Ex E1 f1139.body.r.r (Xb g r0 (ws.map W.d) B ws.length (dB false)) (.ret,{vars:=(.u::.u::dI (-1)::jP),base:=B,loc:=[],aR:=false}):=by
   apply e6;unfold Xb;simp[f1139]
  exact qN (E:=E1) (g:=1139) (F:=f1139) (B:=B) rfl (k1139:E1.fn _=_) rfl (Ex.seq h0 (Ex.seq (Ex.seq h1 (Ex.block hloop)) h2)) aC (by simp[finish,kG,G_,show f1139.res=[.var 2] from rfl,show f1139.ref=false from rfl,gF,leaves,dX,oneOf,jI,D.norm,FV.rows,FV.nZ,aL])
end
set_option maxRecDepth 10000
section
variable {α:Type} {e:α->W}
theorem PY {β:Type}(l:List β)(p:β->Bool):decide ((0:Int)<=(match l.findIdx? (fun a => !p a) with|some j=>(j:Int)|none=>-1)) = !l.all p:=by
 cases h:l.findIdx? (fun a => !p a) with
 | some j =>
  obtain⟨h1,h2,_⟩:=Qt0.1 h;have:l.all p=false:=by
   rw[List.all_eq_false];exact⟨_,Qi2 h1,by simpa using h2⟩
  simp only[this,Bool.not_false,decide_eq_true_eq];omega
 | none =>
  have:l.all p=true:=by
   rw[Qh0];intro a ha;simpa using Xi1.1 h a ha
  simp only[this,Xk2,decide_eq_false_iff_not];omega
theorem KS (g r0:Nat)(aq:List (Ar α))(p:Ar α->Bool)(B:List ai)(hO:∀ n,B.map (ai.aA n)=B)(hn:aq.length<=1000000)(hc:∀ a ∈ aq,∃ N,∀ m,CL E1 (N+m) g [.d (a.d e),.r (.old r0) 0] B=some (dB (!p a),none)) :
  ∃ N,∀ m,CL E1 (N+m) 1065 [.d (.s 11 (aq.map (Ar.d e))),.f g [] [.r (.old r0) 0]] B=some (dB (!aq.all p),none):=by
 obtain⟨N,t⟩:=D9 g r0 aq (fun a => !p a) B hO hn hc;have hf:=PY aq p;refine⟨N+100,fun m => ?_⟩;rw[show N+100+m=(N+m)+100 by omega,aB rfl (aO 1065 f1065:E1.fn _=_) rfl];replace t:=fun k=>dL (t 0) (show N+0<=N+m+k by omega)
 clear hc;generalize aq.map (Ar.d e)=es at*;cases h:aq.findIdx? (fun a => !p a) with
 | some j =>
  rw[h]at t hf;have hb:aq.all p=false:=by
   have h9:(0:Int)<=(j:Int):=ae;simp only[h9,decide_true]at hf;cases hh:aq.all p with
   | true=>rw[hh]at hf;cases hf
   | false=>rfl
  rw[hb];simp[f1065,t,hO,FV.aA,FV.aT]
 | none =>
  rw[h]at t hf;have hb:aq.all p=true:=by
   cases hh:aq.all p with
   | true=>rfl
   | false=>rw[hh]at hf;cases hf
  rw[hb];simp[f1065,t,hO,FV.aA,FV.aT]
theorem Io (g r0:Nat)(ws:List W)(p:W->Bool)(B:List ai)(hO:∀ n,B.map (ai.aA n)=B)(hn:ws.length<=1000000)(hc:∀ a ∈ ws,∃ N,∀ m,CL E1 (N+m) g [.d a.d,.r (.old r0) 0] B=some (dB (!p a),none)) :
  ∃ N,∀ m,CL E1 (N+m) 1107 [.d (.s 8 (ws.map W.d)),.f g [] [.r (.old r0) 0]] B=some (dB (!ws.all p),none):=by
 obtain⟨N,t⟩:=R8 g r0 ws (fun a => !p a) B hO hn hc;have hf:=PY ws p;refine⟨N+100,fun m => ?_⟩;rw[show N+100+m=(N+m)+100 by omega,aB rfl (aO 1107 f1107:E1.fn _=_) rfl];replace t:=fun k=>dL (t 0) (show N+0<=N+m+k by omega)
 clear hc;generalize ws.map W.d=es at*;cases h:ws.findIdx? (fun a => !p a) with
 | some j =>
  rw[h]at t hf;have hb:ws.all p=false:=by
   have h9:(0:Int)<=(j:Int):=ae;simp only[h9,decide_true]at hf;cases hh:ws.all p with
   | true=>rw[hh]at hf;cases hf
   | false=>rfl
  rw[hb];simp[f1107,t,hO,FV.aA,FV.aT]
 | none =>
  rw[h]at t hf;have hb:ws.all p=true:=by
   cases hh:ws.all p with
   | true=>rfl
   | false=>rw[hh]at hf;cases hf
  rw[hb];simp[f1107,t,hO,FV.aA,FV.aT]
theorem R9 (kk:Int)(ps:List Int)(n:Nat):ai.aA n (aI kk ps)=aI kk ps:=j_ [vI kk,.s 1 (LK .i64 ps)] n
theorem D_ (kk:Int)(ps:List Int)(ws:List W)(hl:ps.length<=1000000)(hn:ws.length<=1000000)(hw:∀ w ∈ ws,w.OK) :
  Ca E1 1068 [.d (aV kk ps),.d (.s 8 (ws.map W.d))] (dB (ws.all (di kk ps)),none):=by
 obtain⟨N,t⟩:=Io 1108 0 ws (di kk ps) [aI kk ps] (fun n=>by simp[R9]) hn (fun w h=>by
  obtain⟨N,t⟩:=R7 kk ps w hl (hw w h) 0;exact⟨N,t _ rfl⟩)
 refine Ca.bQ (n:=N+100) ?_;rw[aB rfl (aO 1068 f1068:E1.fn _=_) rfl];generalize ws.all (di kk ps)=r,ws.map W.d=es at*;unfold aV aI at*;simp[f1068,t,FV.aA,FV.aT,ai.aA]
def PZ (kk:Int)(ps:List Int)(sy st:Int)(n1 n2 n3:Nat):Bool :=
 aM kk ps&&(decide (1<=sy)&&(decide (sy<=32)&&(decide (0<=st)&&(decide (st<=64)&&(decide ((n1:Int)=st)&&(decide ((n2:Int)=st)&&decide ((n3:Int)<=2048)))))))
def Og (kk:Int)(ps:List Int)(sy st:Int)(aK fin:List W)(e:α->W)(av:List (Ar α)):Bool :=
 PZ kk ps sy st aK.length fin.length av.length&&(av.all (qP kk ps sy st e)&&(aK.all (di kk ps)&&fin.all (di kk ps)))
def tV (kk:Int)(ps:List Int)(sy st:Int)(aK fin:List W)(e:α->W)(av:List (Ar α)):D:=iD kk ps sy st (aK.map W.d) (fin.map W.d) (av.map (Ar.d e))
theorem Xc (kk:Int)(ps:List Int)(sy st:Int)(aK fin:List W)(av:List (Ar α))(hl:ps.length<=1000000)(h1:aK.length<=1000000)(h2:fin.length<=1000000)(h3:av.length<=1000000)
  (o1:∀ w ∈ aK,w.OK) (o2:∀ w ∈ fin,w.OK) (o3:∀ a ∈ av,(e a.x).OK) :
  Ca E1 1026 [.d (tV kk ps sy st aK fin e av)] (dB (Og kk ps sy st aK fin e av),none):=by
 obtain⟨N1,t1⟩:=KS (e:=e) 1066 0 av (qP kk ps sy st e) [aX kk ps sy st (aK.map W.d) (fin.map W.d) (av.map (Ar.d e))] (fun n=>by simp[zL]) h3 (fun a h=>by
  obtain⟨N,t⟩:=KR (e:=e) kk ps sy st (aK.map W.d) (fin.map W.d) (av.map (Ar.d e)) a hl (o3 a h) 0;exact⟨N,t _ rfl⟩)
 obtain⟨N2,t2⟩:=(D_ kk ps aK hl h1 o1).any;obtain⟨N3,t3⟩:=(D_ kk ps fin hl h2 o2).any;obtain⟨N4,t4⟩:=(Ca.gV (Ca.bQ (qF 0 kk ps))).any;obtain⟨K,hK⟩:∃ K,K=N1+N2+N3+N4:=⟨_,rfl⟩
 replace t1:=fun m=>dL (t1 0) (show N1+0<=K+m by omega)
 replace t2:=t2 K ae;replace t3:=t3 K ae;replace t4:=t4 K ae;have ho:=zL kk ps sy st (aK.map W.d) (fin.map W.d) (av.map (Ar.d e));have n1:(aK.map W.d).length=aK.length:=aC;have n2:(fin.map W.d).length=fin.length:=aC;have n3:(av.map (Ar.d e)).length=av.length:=aC;refine Ca.bQ (n:=K+300) ?_;rw[aB rfl (aO 1026 f1026:E1.fn _=_) rfl];unfold Og tV PZ;generalize av.all (qP kk ps sy st e)=b1,aK.all (di kk ps)=b2,fin.all (di kk ps)=b3,aM kk ps=b4,aK.map W.d=es1,fin.map W.d=es2,av.map (Ar.d e)=es3 at*;clear o1 o2 o3 hl;generalize aK.length=m1,fin.length=m2,av.length=m3 at*;unfold iD aX aV at*;cases b4
 ·simp[f1026,t4]
 by_cases c1:1<=sy
 rotate_left
 ·have c1':sy<1:=ae;simp[f1026,t4,c1,c1']
 have c1':¬ sy<1:=ae
 by_cases c2:sy<=32
 rotate_left
 ·have c2':32<sy:=ae;simp[f1026,t4,c1,c1',c2,c2']
 have c2':¬ 32<sy:=ae
 by_cases c3:0<=st
 rotate_left
 ·have c3':st<0:=ae;simp[f1026,t4,c1,c1',c2,c2',c3,c3']
 have c3':¬ st<0:=ae
 by_cases c4:st<=64
 rotate_left
 ·have c4':64<st:=ae;simp[f1026,t4,c1,c1',c2,c2',c3,c3',c4,c4']
 have c4':¬ 64<st:=ae
 by_cases c5:(m1:Int)=st
 rotate_left
 ·have c5':((m1:Int) != st)=true:=by simpa using c5
  simp[f1026,t4,c1,c1',c2,c2',c3,c3',c4,c4',c5,c5',n1]
 by_cases c6:(m2:Int)=st
 rotate_left
 ·have c5':((m1:Int) != st)=false:=by simpa using c5
  have c6':((m2:Int) != st)=true:=by simpa using c6
  simp[f1026,t4,c1,c1',c2,c2',c3,c3',c4,c4',c5',c6,c6',n1,n2]
 have c5':((m1:Int) != st)=false:=by simpa using c5
 have c6':((m2:Int) != st)=false:=by simpa using c6
 have d5:decide ((m1:Int)=st)=true:=by simpa using c5
 have d6:decide ((m2:Int)=st)=true:=by simpa using c6
 rw[d5,d6];clear c5 c6 d5 d6
 by_cases c7:(m3:Int)<=2048
 rotate_left
 ·have c7':2048<(m3:Int):=ae;simp[f1026,t4,c1,c1',c2,c2',c3,c3',c4,c4',c5',c6',c7,c7',n1,n2,n3]
 have c7':¬ 2048<(m3:Int):=ae;cases b1
 ·simp[f1026,t1,t4,c1,c1',c2,c2',c3,c3',c4,c4',c5',c6',c7,c7',n1,n2,n3,FV.aA,FV.aT,ai.aA]
 cases b2
 ·simp[f1026,t1,t2,t4,c1,c1',c2,c2',c3,c3',c4,c4',c5',c6',c7,c7',n1,n2,n3,FV.aA,FV.aT,ai.aA]
 ·simp[f1026,t1,t2,t3,t4,c1,c1',c2,c2',c3,c3',c4,c4',c5',c6',c7,c7',n1,n2,n3,FV.aA,FV.aT,ai.aA]
end
section
variable {α:Type} {e:α->W} {pl:α->α->α} {z:W} {bD:α->Bool} {G:Nat->α->Prop} {m:Nat} {kk:Int} {ps:List Int}
theorem Xd (kk:Int)(ps:List Int)(hl:ps.length<=1000000):Ca E1 1062 [.d (aV kk ps)] (.d (aV kk ps),none):=by
 have hll:(LK .i64 ps).length<=1000000:=by simpa[LK] using hl
 have t:∀ k,CL E1 k 1098 [.d (.s 1 (LK .i64 ps))] []=some (.d (.s 1 (LK .i64 ps)),none):=fun k=>by
  have hp:E1.jl 1098=some (zN 1):=rfl;rw[jR];unfold cz enter;rw[hp];simp[kD,zN,hll]
 refine Ca.bQ (n:=100) ?_;rw[aB rfl (aO 1062 f1062:E1.fn _=_) rfl];unfold aV;simp[f1062,t]
def KT (s:Nat)(out:FV)(L:List ai)(aq:List D):Prop:=(out=.d (.n 8)/\aq=[])\/∃ i az,i≠s/\out=.ls (.loc i) az 8 0 aq.length/\L[i]?=some (.row az 8 aq)
def acL:aG:=f1063.body.r.r.l.r.bl.lp
def R_ (es:List D)(out:FV)(j:Nat)(t:FV)(L:List ai):St :=
 (st0 [.u,.u,rL 0,.u,out,.u,.d (.s 8 es),dI es.length,dI j,t] L)
theorem Xe (ws:List W)(j:Nat)(out:FV)(L:List ai)(aq:List D)(x z:W)(hn:ws.length<=1000000)(h0:L[0]?=some (aI kk ps))(hx:ws[j]?=some x)(ho:KT 0 out L aq)(has:aq.length<=1000000)
  (hz:Ca E1 26 [.d (aV kk ps)] (.d z.d,none)) (hp:Ca E1 14 [.d (aV kk ps),.d x.d,.d z.d] (.d x.d,none)) :
  ∃ out' L',Ex E1 acL (R_ (ws.map W.d) out j .u L) (.norm,R_ (ws.map W.d) out' (j+1) .u L')/\L'[0]?=some (aI kk ps)/\KT 0 out' L' (aq++[x.d]):=by
 obtain⟨K,hK,t1,t2⟩:=(hz.j hp.any).at 0;have hj:j<ws.length:=(aU hx)
 have hj0:(0:Int)<=(j:Int):=ae;have aS:ak .i64 ((j:Int)+1)=(j:Int)+1:=wrap_i64 ae;have hk1:((j+1:Nat):Int)=(j:Int)+1:=ae;have e1:(ws.map W.d)[j]?=some x.d:=by simp[hx]
 have l0:0<L.length:=(aU h0)
 have g0:∀ X,(L++X)[0]?=some (aI kk ps):=fun X=>by rw[Qa0 l0];exact h0
 have sA:∀ b b':ai,(L++[b]).set L.length b'=L++[b']:=fun b b'=>by simp
 have hel:(ws.map W.d).length=ws.length:=aC;rcases ho with ⟨rfl,rfl⟩|⟨i,az,hi0,rfl,hrow⟩
 ·refine⟨.ls (.loc (L.length+1)) 0 8 0 1,L++[.box (x.d.cells.map .d),.row 0 8 [x.d]],?_,g0 _,.inr ⟨L.length+1,0,ae,rfl,by rw[Qb1 ae];simp⟩⟩;obtain⟨s,l1,l2,c,b,u,p,q,ex⟩:=x.aP;obtain⟨zs,Fe,Ff,zc,zb,zu,zp,F_,ez⟩:=z.aP;simp only[ex,ez]at t1 t2 e1 ⊢;unfold aI aV wD at*;generalize LK .i64 ps=l9,ws.map W.d=es at*;have i0:=idx e1;have j0:=fun X=>idx (g0 X)
  have fJ:j<es.length:=(aU e1)
  have hjl:(j:Int)<(es.length:Int):=ae;refine Ex.of (n:=K+300) ?_;unfold R_;rw[hk1];simp[acL,f1063,t1,t2,hj0,fJ,hjl,aS,e1,i0,j0,g0,h0,sA,most]
 ·have li:i<L.length:=(aU hrow)
  have gi:∀ X,(L++X)[i]?=some (.row az 8 aq):=fun X=>by rw[Qa0 li];exact hrow
  have si:∀ X r,(L++X).set i r=L.set i r++X:=fun X r=>Qr2 _ _ li
  have tkr:aq.take aq.length=aq:=Qj1;have m1:(aq.length+1)*128<=1099511627776:=ae;have m2:aq.length+1<=1099511627776:=ae;refine⟨.ls (.loc i) (az+1) 8 0 (aq.length+1),L.set i (.row (az+1) 8 (aq++[x.d]))++[.box (x.d.cells.map .d)],?_,?_,.inr ⟨i,az+1,hi0,aC,?_⟩⟩
  ·obtain⟨s,l1,l2,c,b,u,p,q,ex⟩:=x.aP;obtain⟨zs,Fe,Ff,zc,zb,zu,zp,F_,ez⟩:=z.aP;simp only[ex,ez]at t1 t2 e1 ⊢;unfold aI aV wD at*;generalize ws.map W.d=es at*;have i0:=idx e1;have j0:=fun X=>idx (g0 X)
   have ji:=fun X=>idx (gi X)
   have fJ:j<es.length:=(aU e1)
   have hjl:(j:Int)<(es.length:Int):=ae;refine Ex.of (n:=K+300) ?_;unfold R_;rw[hk1];simp[acL,f1063,t1,t2,hj0,fJ,hjl,aS,e1,i0,j0,ji,g0,h0,sA,most,gi,si,tkr,m1,m2]
  ·rw[Qa0 (by simpa using l0),Qb2 hi0];exact h0
  ·rw[Qa0 (by simpa using li),Qd0 li]
theorem P5 (ws:List W)(z:W)(hn:ws.length<=1000000)(hz:Ca E1 26 [.d (aV kk ps)] (.d z.d,none))(hp:∀ x ∈ ws,Ca E1 14 [.d (aV kk ps),.d x.d,.d z.d] (.d x.d,none)) :
  Ca E1 1063 [.d (aV kk ps),.d (.s 8 (ws.map W.d))] (.d (.s 8 (ws.map W.d)),none):=by
 have hff:∀ (l:List W) (p:List D),l.foldl (fun p x=>p++[x.d]) p=p++l.map W.d:=by
  intro l
  induction l with
  | nil=>intro p;simp
  | cons a l ih=>intro p;rw[Qk2,ih];simp
 have hel:(ws.map W.d).length=ws.length:=aC;obtain⟨r,h1,out,L,h2,h3⟩:=Ex.fold (E:=E1) (b:=acL) ws (fun p x=>p++[x.d]) []
  (fun j acc st=>∃ out L,st=R_ (ws.map W.d) out j .u L/\L[0]?=some (aI kk ps)/\KT 0 out L acc/\acc.length=j)
  (fun acc r=>∃ out L,r=(.exit 0,R_ (ws.map W.d) out ws.length (dB false) L)/\KT 0 out L acc)
  (fun j x st hx ⟨out,L,hst,g0,g1,g2⟩=>by
   subst hst;have hj:j<ws.length:=(aU hx)
   obtain⟨out',L',k1,k2,k3⟩:=Xe (kk:=kk) (ps:=ps) ws j out L _ x z hn g0 hx g1 ae hz (hp x (Qa2 hx));exact⟨_,k1,out',L',rfl,k2,k3,by rw[Qb0,g2];rfl⟩)
  (fun st ⟨out,L,hst,g0,g1,g2⟩=>by
   subst hst;refine⟨_,Ex.of (n:=60) (r:=(.exit 0,R_ (ws.map W.d) out ws.length (dB false) L)) ?_,aC,out,L,rfl,g1⟩;unfold R_;generalize ws.map W.d=es at*;rw[<-hel];generalize es.length=n at*;simp[acL,f1063])
  (st:=R_ (ws.map W.d) (.d (.n 8)) 0 .u [aI kk ps]) ⟨_,_,rfl,rfl,.inl ⟨rfl,rfl⟩,rfl⟩
 subst h2;rw[hff,Qs2]at h3;have sA:Ex E1 f1063.body.l (st0 (.d (aV kk ps)::.d (.s 8 (ws.map W.d))::xh) [])
   (.norm,(st0 (.u::.d (.s 8 (ws.map W.d))::rL 0::qi) [aI kk ps])):=by
  apply e6;unfold aV aI;simp[f1063]
 have sB := nx sA f1063.body.r.l (st0 (.u::.d (.s 8 (ws.map W.d))::rL 0::.u::.d (.n 8)::jP) [aI kk ps]) (by
  apply e6;simp[f1063])
 have sC := nx sB f1063.body.r.r.l.l (R_ (ws.map W.d) (.d (.n 8)) 0 .u [aI kk ps]) (by
  apply e6;unfold R_;simp[f1063])
 have sD:Ex E1 f1063.body.r.r.r (R_ (ws.map W.d) out ws.length (dB false) L) (.ret,(st0 (.u::.u::.u::out::rM) L)):=by
  apply e6;unfold R_;simp[f1063]
 refine Ca.body (o:=.ret) rfl (aO 1063 f1063:E1.fn _=_) rfl (sA.seq (sB.seq (Ex.seq (sC.seq (Ex.block h1)) sD))) aC ?_;generalize ws.map W.d=es at*;rcases h3 with ⟨rfl,rfl⟩|⟨i,az,_,rfl,hrow⟩
 ·simp[show f1063.res=[.var 3] from rfl,show f1063.ref=false from rfl]
 ·have h9:ai.view az 8 0 es.length (.row az 8 es)=some es:=by simp[ai.view]
  simp[show f1063.res=[.var 3] from rfl,show f1063.ref=false from rfl,hrow,h9]
def dG (pl:α->α->α)(bD:α->Bool)(l:List (Ar α)):List (Ar α):=(bX pl l).filter fun a => !bD a.x
theorem Ip (hW:TY kk ps e pl z bD G m)(sy st:Int)(aK fin:List α)(av:List (Ar α))(hl:ps.length<=1000000)(hn:av.length<20)(hm:av.length<m)(h1:aK.length<=1000000)(h2:fin.length<=1000000)
  (g1:∀ x ∈ aK,G 1 x) (g2:∀ x ∈ fin,G 1 x) (g3:∀ a ∈ av,G 1 a.x) (hv:Ca E1 1026 [.d (tV kk ps sy st (aK.map e) (fin.map e) e av)] (dB true,none)) :
  Ca E1 1024 [.d (tV kk ps sy st (aK.map e) (fin.map e) e av)] (.d (.t [tV kk ps sy st (aK.map e) (fin.map e) e (dG pl bD av),vI 0]),none):=by
 obtain⟨N1,t1⟩:=hv.any;obtain⟨N2,t2⟩:=(Xd kk ps hl).any;obtain⟨N3,t3⟩:=(P5 (kk:=kk) (ps:=ps) (aK.map e) z (by simpa using h1) hW.zero (fun x hx=>by
  obtain⟨a,ha,rfl⟩:=Qg1.1 hx;exact hW.pz a (g1 a ha))).any
 obtain⟨N4,t4⟩:=(P5 (kk:=kk) (ps:=ps) (fin.map e) z (by simpa using h2) hW.zero (fun x hx=>by
  obtain⟨a,ha,rfl⟩:=Qg1.1 hx;exact hW.pz a (g2 a ha))).any
 obtain⟨N5,t5⟩:=(abg hW av hn hm g3).any;obtain⟨K,hK⟩:∃ K,K=N1+N2+N3+N4+N5:=⟨_,rfl⟩
 replace t1:=t1 K ae;replace t2:=t2 K ae;replace t3:=t3 K ae;replace t4:=t4 K ae;replace t5:=t5 K ae;rw[show(bX pl av).filter (fun a => !bD a.x)=dG pl bD av from rfl]at t5;refine Ca.bQ (n:=K+200) ?_;rw[aB rfl (aO 1024 f1024:E1.fn _=_) rfl];unfold tV iD aV at*;generalize (dG pl bD av).map (Ar.d e)=es4,av.map (Ar.d e)=es3,(aK.map e).map W.d=es1,(fin.map e).map W.d=es2 at*;clear hv;simp[f1024,t1,t2,t3,t4,t5,o8]
end
end Fi.S
