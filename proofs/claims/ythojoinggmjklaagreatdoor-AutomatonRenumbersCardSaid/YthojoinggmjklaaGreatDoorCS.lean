import Derived.Test.YthojoinggmjklaaGreatDoorCR
set_option linter.unusedVariables false
set_option linter.unusedSimpArgs false
noncomputable section
namespace Fi.S
open Go Fi
set_option maxHeartbeats 8000000
section
variable {α:Type} {e:α->W}
def q9 (kk:Int)(ps:List Int)(sy st:Int)(aL fin ah:List D):D:=.a [.v (.int .i64 kk),.s 1 (LK .i64 ps),.v (.int .i64 sy),.v (.int .i64 st),.s 8 aL,.s 8 fin,.s 11 ah]
def aM (kk:Int)(ps:List Int)(sy st:Int)(aL fin ah:List D):ae:=.box [.d (.v (.int .i64 kk)),.d (.s 1 (LK .i64 ps)),.d (.v (.int .i64 sy)),.d (.v (.int .i64 st)),.d (.s 8 aL),.d (.s 8 fin),.d (.s 11 ah)]
theorem wK (kk:Int)(ps:List Int)(sy st:Int)(aL fin ah:List D)(n:Nat):ae.az n (aM kk ps sy st aL fin ah)=aM kk ps sy st aL fin ah :=
 kM [.v (.int .i64 kk),.s 1 (LK .i64 ps),.v (.int .i64 sy),.v (.int .i64 st),.s 8 aL,.s 8 fin,.s 11 ah] n
def yg (x lo hi:Int):Bool:=decide (lo<=x)&&decide (x<=hi)
def rO (x st:Int):Bool:=decide (0<=x)&&decide (x<st)
theorem wL (x kk:Int)(ps:List Int)(sy st:Int)(aL fin ah:List D)(B:List ae)(r0:Nat)(hB:B[r0]?=some (aM kk ps sy st aL fin ah))(m:Nat) :
  CL E1 (m+100) 1106 [.d (.v (.int .i64 x)),.r (.old r0) 0] B=some (.d (.v (.bool (rO x st))),none):=by
 have i0:=idx hB;have l0:r0<B.length:=(aT hB)
 rw[aA rfl (k1106:E1.fn _=_) rfl];unfold aM rO at*
 by_cases h1:0<=x
 ·simp -implicitDefEqProofs[f1106,hB,i0,l0,h1]
 ·have h2:x<0:=by omega
  simp -implicitDefEqProofs[f1106,hB,i0,l0,h1,h2]
def nR (kk:Int)(ps:List Int)(sy st:Int)(e:α->W)(a:Ar α):Bool:=rO a.f st&&(rO a.t st&&(decide (0<=a.l)&&(decide (a.l<=sy)&&bM kk ps (e a.x))))
theorem MO (kk:Int)(ps:List Int)(sy st:Int)(aL fin ah:List D)(a:Ar α)(hl:ps.length<=1000000)(hw:(e a.x).OK) :
  Ca E1 1067 [.d (a.d e),.d (q9 kk ps sy st aL fin ah)] (.d (.v (.bool (nR kk ps sy st e a))),none):=by
 obtain⟨N,t⟩:=(Ca.iP (zK kk ps (e a.x) hl hw)).get;have ts:∀ (x:Int) (b:ae) m,(∀ n,ae.az n b=b)->CL E1 (m+100) 1106 [.d (.v (.int .i64 x)),.r (.old 1) 0] [b,aM kk ps sy st aL fin ah]=some (.d (.v (.bool (rO x st))),none) :=
  fun x b m _=>wL x kk ps sy st aL fin ah _ 1 rfl m
 have t1:=fun b m=>wL a.f kk ps sy st aL fin ah [b,aM kk ps sy st aL fin ah] 1 rfl m
 have t2:=fun b m=>wL a.t kk ps sy st aL fin ah [b,aM kk ps sy st aL fin ah] 1 rfl m
 have ho:=wK kk ps sy st aL fin ah;refine Ca.bO (n:=N+400) ?_;rw[aA rfl (k1067:E1.fn _=_) rfl];obtain⟨s,l1,l2,c,b,u,p,q,ew,ex⟩:=a.dG e;rw[ew]at t;rw[ex];unfold nR;generalize bM kk ps (e a.x)=ck at*;clear ts ew ex hw;generalize rO a.f st=s1,rO a.t st=s2 at*;generalize a.f=af,a.l=al,a.t=ta at*;unfold q9 aM bG wD mH at*;generalize LK .i64 ps=l9 at*;cases s1
 ·simp -implicitDefEqProofs[f1067,t1,FV.az,FV.aN,ae.az]
 ·cases s2
  ·simp -implicitDefEqProofs[f1067,t1,t2,FV.az,FV.aN,ae.az]
  ·by_cases h1:0<=al
   ·by_cases h2:al<=sy
    ·simp -implicitDefEqProofs[f1067,t,t1,t2,h1,h2,FV.az,FV.aN,ae.az]
    ·have h3:sy<al:=by omega
     simp -implicitDefEqProofs[f1067,t1,t2,h1,h2,h3,FV.az,FV.aN,ae.az]
   ·have h3:al<0:=by omega
    simp -implicitDefEqProofs[f1067,t1,t2,h1,h3,FV.az,FV.aN,ae.az]
theorem Gz (kk:Int)(ps:List Int)(sy st:Int)(aL fin ah:List D)(a:Ar α)(hl:ps.length<=1000000)(hw:(e a.x).OK)(r0:Nat) :
  ∃ N,∀ B:List ae,B[r0]?=some (aM kk ps sy st aL fin ah)->∀ m,CL E1 (N+m) 1066 [.d (a.d e),.r (.old r0) 0] B=some (.d (.v (.bool (!nR kk ps sy st e a))),none):=by
 obtain⟨N,t⟩:=(MO (e:=e) kk ps sy st aL fin ah a hl hw).get;refine⟨N+100,fun B hB m => ?_⟩;have l0:r0<B.length:=(aT hB)
 have gB:∀ X,(B++X)[r0]?=some (aM kk ps sy st aL fin ah):=fun X=>by rw[List.getElem?_append_left l0];exact hB
 obtain⟨s,l1,l2,c,i,u,p,q,ew,ex⟩:=a.dG e;rw[ex]at t ⊢;generalize nR kk ps sy st e a=r at*;unfold aM q9 mH at*;generalize LK .i64 ps=l9 at*;rw[show N+100+m=(N+m)+100 by omega,aA rfl (k1066:E1.fn _=_) rfl];replace t:=fun k=>dM (t 0) (show N+0<=N+m+k by omega)
 simp -implicitDefEqProofs[f1066,t,gB]
theorem MP (kk:Int)(ps:List Int)(w:W)(hl:ps.length<=1000000)(hw:w.OK)(r0:Nat) :
  ∃ N,∀ B:List ae,B[r0]?=some (aK kk ps)->∀ m,CL E1 (N+m) 1108 [.d w.d,.r (.old r0) 0] B=some (.d (.v (.bool (!bM kk ps w))),none):=by
 obtain⟨N,t⟩:=(Ca.iP (zK kk ps w hl hw)).get;refine⟨N+100,fun B hB m => ?_⟩;have l0:r0<B.length:=(aT hB)
 have gB:∀ X,(B++X)[r0]?=some (aK kk ps):=fun X=>by rw[List.getElem?_append_left l0];exact hB
 obtain⟨s,l1,l2,c,i,u,p,q,ew⟩:=w.aW;rw[ew]at t ⊢;generalize bM kk ps w=r at*;unfold aK bG wD at*;generalize LK .i64 ps=l9 at*;rw[show N+100+m=(N+m)+100 by omega,aA rfl (k1108:E1.fn _=_) rfl];replace t:=fun k=>dM (t 0) (show N+0<=N+m+k by omega)
 simp -implicitDefEqProofs[f1108,t,gB]
def iwL:aD:=f1139.body.r.l.r.bl.lp
def Od (g r0:Nat)(es:List D)(B:List ae)(j:Nat)(t:FV):St :=
 {vars:=[.d (.s 8 es),.f g [] [.r (.old r0) 0],.u,.u,.d (.v (.int .i64 es.length)),.d (.v (.int .i64 j)),t,.u],base:=B,loc:=[],aO:=false}
theorem MQ (g r0:Nat)(ws:List W)(p:W->Bool)(B:List ae)(hO:∀ n,B.map (ae.az n)=B)(hn:ws.length<=1000000)(hc:∀ a ∈ ws,∃ N,∀ m,CL E1 (N+m) g [.d a.d,.r (.old r0) 0] B=some (.d (.v (.bool (p a))),none)) :
  ∃ N,∀ m,CL E1 (N+m) 1139 [.d (.s 8 (ws.map W.d)),.f g [] [.r (.old r0) 0]] B=some (.d (.v (.int .i64 (match ws.findIdx? p with|some j=>(j:Int)|none=>-1))),none):=by
 have hl:(ws.map W.d).length=ws.length:=by simp
 have hloop:=Ex.pY (E:=E1) (b:=iwL) ws p (fun j=>Od g r0 (ws.map W.d) B j .u) (.exit 0,Od g r0 (ws.map W.d) B ws.length (.d (.v (.bool false)))) (fun j=>(.ret,{vars:=[.u,.u,.d (.v (.int .i64 j)),.u,.u,.u,.u,.u],base:=B,loc:=[],aO:=false})) (by simp) (by simp)
  (fun j a ha=>by
   obtain⟨N,t⟩:=hc a (List.mem_of_getElem? ha);have hj:j<ws.length:=(aT ha)
   have hjn:(j:Int)<(ws.length:Int):=by omega
   have hj0:(0:Int)<=(j:Int):=by omega
   have aR:ak .i64 ((j:Int)+1)=(j:Int)+1:=wrap_i64 (by omega);have hk1:((j+1:Nat):Int)=(j:Int)+1:=by omega
   have e1:(ws.map W.d)[j]?=some a.d:=by simp[ha]
   obtain⟨s,l1,l2,c,i,u,q,ps,ex⟩:=a.aW;rw[ex]at t e1;unfold wD at*;generalize ws.map W.d=es at*;have i0:=idx e1;generalize p a=pa at*;refine Ex.of (n:=N+100) ?_;have eP:j<es.length:=(aT e1)
   have hjl:(j:Int)<(es.length:Int):=by omega
   unfold Od;cases pa
   ·rw[if_neg (by simp),hk1];simp -implicitDefEqProofs[iwL,f1139,t,hj0,hjn,eP,hjl,aR,e1,i0,hO,FV.az,FV.aN]
   ·rw[if_pos rfl];simp -implicitDefEqProofs[iwL,f1139,t,hj0,hjn,eP,hjl,e1,i0,hO,FV.az,FV.aN])
  (by
   refine Ex.of (n:=60) ?_;unfold Od;generalize ws.map W.d=es at*;rw[<-hl];generalize es.length=n at*;simp -implicitDefEqProofs[iwL,f1139])
 have h0:Ex E1 f1139.body.l (Od g r0 (ws.map W.d) B 0 .u |> fun s=>{s with vars:=[.d (.s 8 (ws.map W.d)),.f g [] [.r (.old r0) 0],.u,.u,.u,.u,.u,.u]}) (.norm,Od g r0 (ws.map W.d) B 0 .u |> fun s=>{s with vars:=[.d (.s 8 (ws.map W.d)),.f g [] [.r (.old r0) 0],.u,.u,.u,.u,.u,.u]}):=by
  refine Ex.of (n:=60) ?_;unfold Od;simp -implicitDefEqProofs[f1139]
 have h1:Ex E1 f1139.body.r.l.l (Od g r0 (ws.map W.d) B 0 .u |> fun s=>{s with vars:=[.d (.s 8 (ws.map W.d)),.f g [] [.r (.old r0) 0],.u,.u,.u,.u,.u,.u]}) (.norm,Od g r0 (ws.map W.d) B 0 .u):=by
  refine Ex.of (n:=60) ?_;unfold Od;simp -implicitDefEqProofs[f1139]
 cases hf:ws.findIdx? p with
 | some j =>
  rw[hf]at hloop;exact nO (E:=E1) (g:=1139) (F:=f1139) (B:=B) rfl (k1139:E1.fn _=_) rfl (Ex.seq h0 (Ex.bD (Ex.seq h1 (Ex.bf hloop)))) (by simp) (by simp[finish,kz,Dv,show f1139.res=[.var 2] from rfl,show f1139.ref=false from rfl,eU,leaves,eZ,oneOf,jm,D.norm,FV.rows,FV.lY,aI])
 | none =>
  rw[hf]at hloop;have h2:Ex E1 f1139.body.r.r (Od g r0 (ws.map W.d) B ws.length (.d (.v (.bool false)))) (.ret,{vars:=[.u,.u,.d (.v (.int .i64 (-1))),.u,.u,.u,.u,.u],base:=B,loc:=[],aO:=false}):=by
   refine Ex.of (n:=60) ?_;unfold Od;simp -implicitDefEqProofs[f1139]
  exact nO (E:=E1) (g:=1139) (F:=f1139) (B:=B) rfl (k1139:E1.fn _=_) rfl (Ex.seq h0 (Ex.seq (Ex.seq h1 (Ex.block hloop)) h2)) (by simp) (by simp[finish,kz,Dv,show f1139.res=[.var 2] from rfl,show f1139.ref=false from rfl,eU,leaves,eZ,oneOf,jm,D.norm,FV.rows,FV.lY,aI])
end
set_option maxRecDepth 10000
section
variable {α:Type} {e:α->W}
theorem KO {β:Type}(l:List β)(p:β->Bool):decide ((0:Int)<=(match l.findIdx? (fun a => !p a) with|some j=>(j:Int)|none=>-1)) = !l.all p:=by
 cases h:l.findIdx? (fun a => !p a) with
 | some j =>
  obtain⟨h1,h2,_⟩:=List.findIdx?_eq_some_iff_getElem.1 h;have:l.all p=false:=by
   rw[List.all_eq_false];exact⟨_,List.getElem_mem h1,by simpa using h2⟩
  simp only[this,Bool.not_false,decide_eq_true_eq];omega
 | none =>
  have:l.all p=true:=by
   rw[List.all_eq_true];intro a ha;simpa using List.findIdx?_eq_none_iff.1 h a ha
  simp only[this,Bool.not_true,decide_eq_false_iff_not];omega
theorem GA (g r0:Nat)(aq:List (Ar α))(p:Ar α->Bool)(B:List ae)(hO:∀ n,B.map (ae.az n)=B)(hn:aq.length<=1000000)(hc:∀ a ∈ aq,∃ N,∀ m,CL E1 (N+m) g [.d (a.d e),.r (.old r0) 0] B=some (.d (.v (.bool (!p a))),none)) :
  ∃ N,∀ m,CL E1 (N+m) 1065 [.d (.s 11 (aq.map (Ar.d e))),.f g [] [.r (.old r0) 0]] B=some (.d (.v (.bool (!aq.all p))),none):=by
 obtain⟨N,t⟩:=Ap g r0 aq (fun a => !p a) B hO hn hc;have hf:=KO aq p;refine⟨N+100,fun m => ?_⟩;rw[show N+100+m=(N+m)+100 by omega,aA rfl (k1065:E1.fn _=_) rfl];replace t:=fun k=>dM (t 0) (show N+0<=N+m+k by omega)
 clear hc;generalize aq.map (Ar.d e)=es at*;cases h:aq.findIdx? (fun a => !p a) with
 | some j =>
  rw[h]at t hf;have hb:aq.all p=false:=by
   have h9:(0:Int)<=(j:Int):=by omega
   simp only[h9,decide_true]at hf;cases hh:aq.all p with
   | true=>rw[hh]at hf;cases hf
   | false=>rfl
  rw[hb];simp -implicitDefEqProofs[f1065,t,hO,FV.az,FV.aN]
 | none =>
  rw[h]at t hf;have hb:aq.all p=true:=by
   cases hh:aq.all p with
   | true=>rfl
   | false=>rw[hh]at hf;cases hf
  rw[hb];simp -implicitDefEqProofs[f1065,t,hO,FV.az,FV.aN]
theorem Em (g r0:Nat)(ws:List W)(p:W->Bool)(B:List ae)(hO:∀ n,B.map (ae.az n)=B)(hn:ws.length<=1000000)(hc:∀ a ∈ ws,∃ N,∀ m,CL E1 (N+m) g [.d a.d,.r (.old r0) 0] B=some (.d (.v (.bool (!p a))),none)) :
  ∃ N,∀ m,CL E1 (N+m) 1107 [.d (.s 8 (ws.map W.d)),.f g [] [.r (.old r0) 0]] B=some (.d (.v (.bool (!ws.all p))),none):=by
 obtain⟨N,t⟩:=MQ g r0 ws (fun a => !p a) B hO hn hc;have hf:=KO ws p;refine⟨N+100,fun m => ?_⟩;rw[show N+100+m=(N+m)+100 by omega,aA rfl (k1107:E1.fn _=_) rfl];replace t:=fun k=>dM (t 0) (show N+0<=N+m+k by omega)
 clear hc;generalize ws.map W.d=es at*;cases h:ws.findIdx? (fun a => !p a) with
 | some j =>
  rw[h]at t hf;have hb:ws.all p=false:=by
   have h9:(0:Int)<=(j:Int):=by omega
   simp only[h9,decide_true]at hf;cases hh:ws.all p with
   | true=>rw[hh]at hf;cases hf
   | false=>rfl
  rw[hb];simp -implicitDefEqProofs[f1107,t,hO,FV.az,FV.aN]
 | none =>
  rw[h]at t hf;have hb:ws.all p=true:=by
   cases hh:ws.all p with
   | true=>rfl
   | false=>rw[hh]at hf;cases hf
  rw[hb];simp -implicitDefEqProofs[f1107,t,hO,FV.az,FV.aN]
theorem MR (kk:Int)(ps:List Int)(n:Nat):ae.az n (aK kk ps)=aK kk ps:=kM [.v (.int .i64 kk),.s 1 (LK .i64 ps)] n
theorem Aq (kk:Int)(ps:List Int)(ws:List W)(hl:ps.length<=1000000)(hn:ws.length<=1000000)(hw:∀ w ∈ ws,w.OK) :
  Ca E1 1068 [.d (bG kk ps),.d (.s 8 (ws.map W.d))] (.d (.v (.bool (ws.all (bM kk ps)))),none):=by
 obtain⟨N,t⟩:=Em 1108 0 ws (bM kk ps) [aK kk ps] (fun n=>by simp[MR]) hn (fun w h=>by
  obtain⟨N,t⟩:=MP kk ps w hl (hw w h) 0;exact⟨N,t _ rfl⟩)
 refine Ca.bO (n:=N+100) ?_;rw[aA rfl (k1068:E1.fn _=_) rfl];generalize ws.all (bM kk ps)=r,ws.map W.d=es at*;unfold bG aK at*;simp -implicitDefEqProofs[f1068,t,FV.az,FV.aN,ae.az]
def GD (kk:Int)(ps:List Int)(sy st:Int)(n1 n2 n3:Nat):Bool :=
 aQ kk ps&&(decide (1<=sy)&&(decide (sy<=32)&&(decide (0<=st)&&(decide (st<=64)&&(decide ((n1:Int)=st)&&(decide ((n2:Int)=st)&&decide ((n3:Int)<=2048)))))))
def En (kk:Int)(ps:List Int)(sy st:Int)(aL fin:List W)(e:α->W)(ah:List (Ar α)):Bool :=
 GD kk ps sy st aL.length fin.length ah.length&&(ah.all (nR kk ps sy st e)&&(aL.all (bM kk ps)&&fin.all (bM kk ps)))
def kX (kk:Int)(ps:List Int)(sy st:Int)(aL fin:List W)(e:α->W)(ah:List (Ar α)):D:=q9 kk ps sy st (aL.map W.d) (fin.map W.d) (ah.map (Ar.d e))
theorem uR (kk:Int)(ps:List Int)(sy st:Int)(aL fin:List W)(ah:List (Ar α))(hl:ps.length<=1000000)(h1:aL.length<=1000000)(h2:fin.length<=1000000)(h3:ah.length<=1000000)
  (o1:∀ w ∈ aL,w.OK) (o2:∀ w ∈ fin,w.OK) (o3:∀ a ∈ ah,(e a.x).OK) :
  Ca E1 1026 [.d (kX kk ps sy st aL fin e ah)] (.d (.v (.bool (En kk ps sy st aL fin e ah))),none):=by
 obtain⟨N1,t1⟩:=GA (e:=e) 1066 0 ah (nR kk ps sy st e) [aM kk ps sy st (aL.map W.d) (fin.map W.d) (ah.map (Ar.d e))] (fun n=>by simp[wK]) h3 (fun a h=>by
  obtain⟨N,t⟩:=Gz (e:=e) kk ps sy st (aL.map W.d) (fin.map W.d) (ah.map (Ar.d e)) a hl (o3 a h) 0;exact⟨N,t _ rfl⟩)
 obtain⟨N2,t2⟩:=(Aq kk ps aL hl h1 o1).any;obtain⟨N3,t3⟩:=(Aq kk ps fin hl h2 o2).any;obtain⟨N4,t4⟩:=(Ca.iP (Ca.bO (nD 0 kk ps))).any;obtain⟨K,hK⟩:∃ K,K=N1+N2+N3+N4:=⟨_,rfl⟩
 replace t1:=fun m=>dM (t1 0) (show N1+0<=K+m by omega)
 replace t2:=t2 K (by omega);replace t3:=t3 K (by omega);replace t4:=t4 K (by omega);have ho:=wK kk ps sy st (aL.map W.d) (fin.map W.d) (ah.map (Ar.d e));have n1:(aL.map W.d).length=aL.length:=by simp
 have n2:(fin.map W.d).length=fin.length:=by simp
 have n3:(ah.map (Ar.d e)).length=ah.length:=by simp
 refine Ca.bO (n:=K+300) ?_;rw[aA rfl (k1026:E1.fn _=_) rfl];unfold En kX GD;generalize ah.all (nR kk ps sy st e)=b1,aL.all (bM kk ps)=b2,fin.all (bM kk ps)=b3,aQ kk ps=b4,aL.map W.d=es1,fin.map W.d=es2,ah.map (Ar.d e)=Vy at*;clear o1 o2 o3 hl;generalize aL.length=m1,fin.length=m2,ah.length=m3 at*;unfold q9 aM bG at*;generalize LK .i64 ps=l9 at*;cases b4
 ·simp -implicitDefEqProofs[f1026,t4]
 by_cases c1:1<=sy
 rotate_left
 ·have c1':sy<1:=by omega
  simp -implicitDefEqProofs[f1026,t4,c1,c1']
 have c1':¬ sy<1:=by omega
 by_cases c2:sy<=32
 rotate_left
 ·have c2':32<sy:=by omega
  simp -implicitDefEqProofs[f1026,t4,c1,c1',c2,c2']
 have c2':¬ 32<sy:=by omega
 by_cases c3:0<=st
 rotate_left
 ·have c3':st<0:=by omega
  simp -implicitDefEqProofs[f1026,t4,c1,c1',c2,c2',c3,c3']
 have c3':¬ st<0:=by omega
 by_cases c4:st<=64
 rotate_left
 ·have WY:64<st:=by omega
  simp -implicitDefEqProofs[f1026,t4,c1,c1',c2,c2',c3,c3',c4,WY]
 have WY:¬ 64<st:=by omega
 by_cases c5:(m1:Int)=st
 rotate_left
 ·have WZ:((m1:Int) != st)=true:=by simpa using c5
  simp -implicitDefEqProofs[f1026,t4,c1,c1',c2,c2',c3,c3',c4,WY,c5,WZ,n1]
 by_cases c6:(m2:Int)=st
 rotate_left
 ·have WZ:((m1:Int) != st)=false:=by simpa using c5
  have c6':((m2:Int) != st)=true:=by simpa using c6
  simp -implicitDefEqProofs[f1026,t4,c1,c1',c2,c2',c3,c3',c4,WY,WZ,c6,c6',n1,n2]
 have WZ:((m1:Int) != st)=false:=by simpa using c5
 have c6':((m2:Int) != st)=false:=by simpa using c6
 have d5:decide ((m1:Int)=st)=true:=by simpa using c5
 have d6:decide ((m2:Int)=st)=true:=by simpa using c6
 rw[d5,d6];clear c5 c6 d5 d6
 by_cases c7:(m3:Int)<=2048
 rotate_left
 ·have c7':2048<(m3:Int):=by omega
  simp -implicitDefEqProofs[f1026,t4,c1,c1',c2,c2',c3,c3',c4,WY,WZ,c6',c7,c7',n1,n2,n3]
 have c7':¬ 2048<(m3:Int):=by omega
 cases b1
 ·simp -implicitDefEqProofs[f1026,t1,t4,c1,c1',c2,c2',c3,c3',c4,WY,WZ,c6',c7,c7',n1,n2,n3,FV.az,FV.aN,ae.az]
 cases b2
 ·simp -implicitDefEqProofs[f1026,t1,t2,t4,c1,c1',c2,c2',c3,c3',c4,WY,WZ,c6',c7,c7',n1,n2,n3,FV.az,FV.aN,ae.az]
 ·simp -implicitDefEqProofs[f1026,t1,t2,t3,t4,c1,c1',c2,c2',c3,c3',c4,WY,WZ,c6',c7,c7',n1,n2,n3,FV.az,FV.aN,ae.az]
end
section
variable {α:Type} {e:α->W} {pl:α->α->α} {z:W} {eQ:α->Bool} {G:Nat->α->Prop} {m:Nat} {kk:Int} {ps:List Int}
theorem Rk (kk:Int)(ps:List Int)(hl:ps.length<=1000000):Ca E1 1062 [.d (bG kk ps)] (.d (bG kk ps),none):=by
 have hll:(LK .i64 ps).length<=1000000:=by simpa[LK] using hl
 have t:∀ k,CL E1 k 1098 [.d (.s 1 (LK .i64 ps))] []=some (.d (.s 1 (LK .i64 ps)),none):=fun k=>by
  have hp:E1.iF 1098=some (wM 1):=rfl;rw[iV];unfold cK enter;rw[hp];simp[ku,wM,hll]
 refine Ca.bO (n:=100) ?_;rw[aA rfl (k1062:E1.fn _=_) rfl];unfold bG;generalize LK .i64 ps=l9 at*;simp -implicitDefEqProofs[f1062,t]
def GG (s:Nat)(out:FV)(L:List ae)(aq:List D):Prop:=(out=.d (.n 8)/\aq=[])\/∃ i av,i≠s/\out=.ls (.loc i) av 8 0 aq.length/\L[i]?=some (.row av 8 aq)
def acL:aD:=f1063.body.r.r.l.r.bl.lp
def MS (es:List D)(out:FV)(j:Nat)(t:FV)(L:List ae):St :=
 (st0 [.u,.u,.r (.loc 0) 0,.u,out,.u,.d (.s 8 es),.d (.v (.int .i64 es.length)),.d (.v (.int .i64 j)),t] L)
theorem Rl (ws:List W)(j:Nat)(out:FV)(L:List ae)(aq:List D)(x z:W)(hn:ws.length<=1000000)(h0:L[0]?=some (aK kk ps))(hx:ws[j]?=some x)(ho:GG 0 out L aq)(has:aq.length<=1000000)
  (hz:Ca E1 26 [.d (bG kk ps)] (.d z.d,none)) (hp:Ca E1 14 [.d (bG kk ps),.d x.d,.d z.d] (.d x.d,none)) :
  ∃ out' L',Ex E1 acL (MS (ws.map W.d) out j .u L) (.norm,MS (ws.map W.d) out' (j+1) .u L')/\L'[0]?=some (aK kk ps)/\GG 0 out' L' (aq++[x.d]):=by
 obtain⟨K,hK,t1,t2⟩:=(hz.j hp.any).at 0;have hj:j<ws.length:=(aT hx)
 have hj0:(0:Int)<=(j:Int):=by omega
 have aR:ak .i64 ((j:Int)+1)=(j:Int)+1:=wrap_i64 (by omega);have hk1:((j+1:Nat):Int)=(j:Int)+1:=by omega
 have e1:(ws.map W.d)[j]?=some x.d:=by simp[hx]
 have l0:0<L.length:=(aT h0)
 have g0:∀ X,(L++X)[0]?=some (aK kk ps):=fun X=>by rw[List.getElem?_append_left l0];exact h0
 have sA:∀ b b':ae,(L++[b]).set L.length b'=L++[b']:=fun b b'=>by simp
 have hel:(ws.map W.d).length=ws.length:=by simp
 rcases ho with ⟨rfl,rfl⟩|⟨i,av,hi0,rfl,hrow⟩
 ·refine⟨.ls (.loc (L.length+1)) 0 8 0 1,L++[.box (x.d.cells.map .d),.row 0 8 [x.d]],?_,g0 _,.inr ⟨L.length+1,0,by omega,rfl,by rw[List.getElem?_append_right (by omega)];simp⟩⟩;obtain⟨s,l1,l2,c,b,u,p,q,ex⟩:=x.aW;obtain⟨zs,EY,EZ,zc,zb,zu,zp,Gh,ez⟩:=z.aW;simp only[ex,ez]at t1 t2 e1 ⊢;unfold aK bG wD at*;generalize LK .i64 ps=l9,ws.map W.d=es at*;have i0:=idx e1;have j0:=fun X=>idx (g0 X)
  have eP:j<es.length:=(aT e1)
  have hjl:(j:Int)<(es.length:Int):=by omega
  refine Ex.of (n:=K+300) ?_;unfold MS;rw[hk1];simp -implicitDefEqProofs[acL,f1063,t1,t2,hj0,eP,hjl,aR,e1,i0,j0,g0,h0,sA,most]
 ·have li:i<L.length:=(aT hrow)
  have gi:∀ X,(L++X)[i]?=some (.row av 8 aq):=fun X=>by rw[List.getElem?_append_left li];exact hrow
  have si:∀ X r,(L++X).set i r=L.set i r++X:=fun X r=>List.set_append_left _ _ li
  have tkr:aq.take aq.length=aq:=List.take_length;have m1:(aq.length+1)*128<=1099511627776:=by omega
  have m2:aq.length+1<=1099511627776:=by omega
  refine⟨.ls (.loc i) (av+1) 8 0 (aq.length+1),L.set i (.row (av+1) 8 (aq++[x.d]))++[.box (x.d.cells.map .d)],?_,?_,.inr ⟨i,av+1,hi0,by simp,?_⟩⟩
  ·obtain⟨s,l1,l2,c,b,u,p,q,ex⟩:=x.aW;obtain⟨zs,EY,EZ,zc,zb,zu,zp,Gh,ez⟩:=z.aW;simp only[ex,ez]at t1 t2 e1 ⊢;unfold aK bG wD at*;generalize LK .i64 ps=l9,ws.map W.d=es at*;have i0:=idx e1;have j0:=fun X=>idx (g0 X)
   have ji:=fun X=>idx (gi X)
   have eP:j<es.length:=(aT e1)
   have hjl:(j:Int)<(es.length:Int):=by omega
   refine Ex.of (n:=K+300) ?_;unfold MS;rw[hk1];simp -implicitDefEqProofs[acL,f1063,t1,t2,hj0,eP,hjl,aR,e1,i0,j0,ji,g0,h0,sA,most,gi,si,tkr,m1,m2]
  ·rw[List.getElem?_append_left (by simpa using l0),List.getElem?_set_ne hi0];exact h0
  ·rw[List.getElem?_append_left (by simpa using li),List.getElem?_set_self li]
theorem KP (ws:List W)(z:W)(hn:ws.length<=1000000)(hz:Ca E1 26 [.d (bG kk ps)] (.d z.d,none))(hp:∀ x ∈ ws,Ca E1 14 [.d (bG kk ps),.d x.d,.d z.d] (.d x.d,none)) :
  Ca E1 1063 [.d (bG kk ps),.d (.s 8 (ws.map W.d))] (.d (.s 8 (ws.map W.d)),none):=by
 have hff:∀ (l:List W) (p:List D),l.foldl (fun p x=>p++[x.d]) p=p++l.map W.d:=by
  intro l
  induction l with
  | nil=>intro p;simp
  | cons a l ih=>intro p;rw[List.foldl_cons,ih];simp
 have hel:(ws.map W.d).length=ws.length:=by simp
 obtain⟨r,h1,out,L,h2,h3⟩:=Ex.fold (E:=E1) (b:=acL) ws (fun p x=>p++[x.d]) []
  (fun j acc st=>∃ out L,st=MS (ws.map W.d) out j .u L/\L[0]?=some (aK kk ps)/\GG 0 out L acc/\acc.length=j)
  (fun acc r=>∃ out L,r=(.exit 0,MS (ws.map W.d) out ws.length (.d (.v (.bool false))) L)/\GG 0 out L acc)
  (fun j x st hx ⟨out,L,hst,g0,g1,g2⟩=>by
   subst hst;have hj:j<ws.length:=(aT hx)
   obtain⟨out',L',k1,k2,k3⟩:=Rl (kk:=kk) (ps:=ps) ws j out L _ x z hn g0 hx g1 (by omega) hz (hp x (List.mem_of_getElem? hx));exact⟨_,k1,out',L',rfl,k2,k3,by rw[List.length_append,g2];rfl⟩)
  (fun st ⟨out,L,hst,g0,g1,g2⟩=>by
   subst hst;refine⟨_,Ex.of (n:=60) (r:=(.exit 0,MS (ws.map W.d) out ws.length (.d (.v (.bool false))) L)) ?_,by simp,out,L,rfl,g1⟩;unfold MS;generalize ws.map W.d=es at*;rw[<-hel];generalize es.length=n at*;simp -implicitDefEqProofs[acL,f1063])
  (st:=MS (ws.map W.d) (.d (.n 8)) 0 .u [aK kk ps]) ⟨_,_,rfl,rfl,.inl ⟨rfl,rfl⟩,rfl⟩
 subst h2;rw[hff,List.nil_append]at h3;have sA:Ex E1 f1063.body.l (st0 [.d (bG kk ps),.d (.s 8 (ws.map W.d)),.u,.u,.u,.u,.u,.u,.u,.u] [])
   (.norm,(st0 [.u,.d (.s 8 (ws.map W.d)),.r (.loc 0) 0,.u,.u,.u,.u,.u,.u,.u] [aK kk ps])):=by
  refine Ex.of (n:=60) ?_;unfold bG aK;simp -implicitDefEqProofs[f1063]
 have sB:Ex E1 f1063.body.r.l (st0 [.u,.d (.s 8 (ws.map W.d)),.r (.loc 0) 0,.u,.u,.u,.u,.u,.u,.u] [aK kk ps])
   (.norm,(st0 [.u,.d (.s 8 (ws.map W.d)),.r (.loc 0) 0,.u,.d (.n 8),.u,.u,.u,.u,.u] [aK kk ps])):=by
  refine Ex.of (n:=60) ?_;simp -implicitDefEqProofs[f1063]
 have sC:Ex E1 f1063.body.r.r.l.l (st0 [.u,.d (.s 8 (ws.map W.d)),.r (.loc 0) 0,.u,.d (.n 8),.u,.u,.u,.u,.u] [aK kk ps])
   (.norm,MS (ws.map W.d) (.d (.n 8)) 0 .u [aK kk ps]):=by
  refine Ex.of (n:=60) ?_;unfold MS;simp -implicitDefEqProofs[f1063]
 have sD:Ex E1 f1063.body.r.r.r (MS (ws.map W.d) out ws.length (.d (.v (.bool false))) L) (.ret,(st0 [.u,.u,.u,out,.u,.u,.u,.u,.u,.u] L)):=by
  refine Ex.of (n:=60) ?_;unfold MS;simp -implicitDefEqProofs[f1063]
 refine Ca.body (o:=.ret) rfl (k1063:E1.fn _=_) rfl (sA.seq (sB.seq (Ex.seq (sC.seq (Ex.block h1)) sD))) (by simp) ?_;generalize ws.map W.d=es at*;rcases h3 with ⟨rfl,rfl⟩|⟨i,av,_,rfl,hrow⟩
 ·simp[show f1063.res=[.var 3] from rfl,show f1063.ref=false from rfl]
 ·have h9:ae.view av 8 0 es.length (.row av 8 es)=some es:=by simp[ae.view]
  simp[show f1063.res=[.var 3] from rfl,show f1063.ref=false from rfl,hrow,h9]
def qj (pl:α->α->α)(eQ:α->Bool)(l:List (Ar α)):List (Ar α):=(dU pl l).filter fun a => !eQ a.x
theorem Eo (hW:KN kk ps e pl z eQ G m)(sy st:Int)(aL fin:List α)(ah:List (Ar α))(hl:ps.length<=1000000)(hn:ah.length<20)(hm:ah.length<m)(h1:aL.length<=1000000)(h2:fin.length<=1000000)
  (g1:∀ x ∈ aL,G 1 x) (g2:∀ x ∈ fin,G 1 x) (g3:∀ a ∈ ah,G 1 a.x) (hv:Ca E1 1026 [.d (kX kk ps sy st (aL.map e) (fin.map e) e ah)] (.d (.v (.bool true)),none)) :
  Ca E1 1024 [.d (kX kk ps sy st (aL.map e) (fin.map e) e ah)] (.d (.t [kX kk ps sy st (aL.map e) (fin.map e) e (qj pl eQ ah),.v (.int .i64 0)]),none):=by
 obtain⟨N1,t1⟩:=hv.any;obtain⟨N2,t2⟩:=(Rk kk ps hl).any;obtain⟨N3,t3⟩:=(KP (kk:=kk) (ps:=ps) (aL.map e) z (by simpa using h1) hW.zero (fun x hx=>by
  obtain⟨a,ha,rfl⟩:=List.mem_map.1 hx;exact hW.pz a (g1 a ha))).any
 obtain⟨N4,t4⟩:=(KP (kk:=kk) (ps:=ps) (fin.map e) z (by simpa using h2) hW.zero (fun x hx=>by
  obtain⟨a,ha,rfl⟩:=List.mem_map.1 hx;exact hW.pz a (g2 a ha))).any
 obtain⟨N5,t5⟩:=(Vx hW ah hn hm g3).any;obtain⟨K,hK⟩:∃ K,K=N1+N2+N3+N4+N5:=⟨_,rfl⟩
 replace t1:=t1 K (by omega);replace t2:=t2 K (by omega);replace t3:=t3 K (by omega);replace t4:=t4 K (by omega);replace t5:=t5 K (by omega);rw[show(dU pl ah).filter (fun a => !eQ a.x)=qj pl eQ ah from rfl]at t5;refine Ca.bO (n:=K+200) ?_;rw[aA rfl (k1024:E1.fn _=_) rfl];unfold kX q9 bG at*;generalize (qj pl eQ ah).map (Ar.d e)=es4,ah.map (Ar.d e)=Vy,(aL.map e).map W.d=es1,(fin.map e).map W.d=es2,LK .i64 ps=l9 at*;clear hv;simp -implicitDefEqProofs[f1024,t1,t2,t3,t4,t5,mF]
end
end Fi.S
