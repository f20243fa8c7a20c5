import Derived.Test.YtkekcmgkpdkieaaGreatDoorCE
import Derived.Test.YtkekcmgkpdkieaaGreatDoorFiH
set_option linter.unusedVariables false
set_option linter.unusedSimpArgs false
noncomputable section
namespace Fi.S
open Go Fi
section
structure Qm (P:Program):Prop where
 ring:lF P 26 [(3,0,1),(22,1,1)] 2=true
 rat:lF P 46 [(4,0,1),(44,1,1),(44,2,1)] 3=true
 mono:lF P 115 [(113,0,3),(46,3,3)] 6=true
 weight:lF P 50 [(46,0,3),(3,3,1),(4,4,1),(47,5,1),(48,6,1),(28,7,1)] 8=true
 ints:sliceB P 22 3 1=true
 limbs:sliceB P 44 154 1=true
 poly:sliceB P 48 115 6=true
 parts:sliceB P 28 50 8=true
 arr:Ky P 113 3 3 1=true
 int:N9 P 3 .i64=true
 set:N9 P 47 .u64=true
 limb:N9 P 154 .u32=true
 bool:RQ P 4=true
def Mo.oP (m:Mo):Prop:=bP m.a/\bP m.b
def AU (u:Int):Prop:=0<=u/\u<18446744073709551616
inductive W.oP:W->Prop
 | mk {s:Bool} {a b:List Nat} {c:Int} {i:Bool} {u:Int} {p:List Mo} {ps:List W} (ha:bP a) (hb:bP b) (hp:∀ m ∈ p,m.oP) (hu:AU u) (h:∀ w ∈ ps,W.oP w):W.oP (.mk s a b c i u p ps)
theorem jO {cs:List Value}{n:Nat}(h:cs.length=n):Dg cs 0 n=cs:=by rw[<-h,Hr]
section lift
variable {H:Type} {enc:TypeId × Value->H} {P:Program} {w:World} {base:Nat} {held:Bool} {σ:Nat->Option FuncId} {sp:Nat->Bool} {fuel:Nat} {cs:List Value} {x:DataW H × List MemPlace}
theorem wf_i64 {n:Int}(h:(Lit.int .i64 n).wf=true):Xa n:=by
 simp only[Lit.wf,Qa2,decide_eq_true_eq]at h;have e1:IntKind.min .i64=-9223372036854775808:=by rfl
 have e2:IntKind.max .i64=9223372036854775807:=by rfl
 unfold Xa;rw[e1,e2]at h;omega
theorem Xq {n:Int}(h:(Lit.int .u64 n).wf=true):AU n:=by
 simp only[Lit.wf,Qa2,decide_eq_true_eq]at h;have e1:IntKind.min .u64=0:=by rfl
 have e2:IntKind.max .u64=18446744073709551615:=by rfl
 unfold AU;rw[e1,e2]at h;omega
theorem AV (T:Qm P)(h:DataW.trod enc P w base sp held fuel 44 cs=some x):∃ a:List Nat,bP a/\Rc σ (Here w) w [LD a] cs:=by
 obtain⟨l,h1,h2⟩:=DZ (σ:=σ) T.limbs T.limb h;have:∀ l:List Int,(∀ n ∈ l,(Lit.int .u32 n).wf=true)->∃ a:List Nat,bP a/\(l.map fun n=>D.v (.int .u32 n))=LL a:=by
  intro l
  induction l with
  | nil=>intro _;exact⟨[],(by intro y hy;cases hy),rfl⟩
  | cons n r ih =>
   intro hn;obtain⟨a,ha,e⟩:=ih (fun z hz=>hn z (Qf1 _ hz));have hw:=hn n (Qi0 ..);simp only[Lit.wf,Qa2,decide_eq_true_eq]at hw;have e1:IntKind.min .u32=0:=by rfl
   have e2:IntKind.max .u32=4294967295:=by rfl
   rw[e1,e2]at hw;refine⟨n.toNat::a,?_,?_⟩
   ·intro y hy;rcases Qg1.1 hy with rfl|hy
    ·omega
    ·exact ha y hy
   ·have:((n.toNat:Nat):Int)=n:=ae;simp only[Qe1,LL,this];rw[e];rfl
 obtain⟨a,ha,e⟩:=this l h1;rw[e]at h2;exact⟨a,ha,h2⟩
theorem Ht (T:Qm P)(h:DataW.trod enc P w base sp held fuel 46 cs=some x):∃ (s:Bool) (a b:List Nat),bP a/\bP b/\Rc σ (Here w) w [vB s,LD a,LD b] cs:=by
 obtain⟨m,_,hl,hf⟩:=gu T.rat h;obtain⟨_,h0⟩:=hf 0 4 0 1 rfl;obtain⟨_,h1⟩:=hf 1 44 1 1 rfl;obtain⟨_,h2⟩:=hf 2 44 2 1 rfl;obtain⟨s,r0⟩:=D5 (σ:=σ) (Mi T.bool) h0;obtain⟨a,ha,r1⟩:=AV (σ:=σ) T h1;obtain⟨b,hb,r2⟩:=AV (σ:=σ) T h2;refine⟨s,a,b,ha,hb,?_⟩;have:=(r0.append r1).append r2;rw[dh,dh,jO (n:=1+1+1) hl]at this;exact this
theorem N_ (T:Qm P)(h:DataW.trod enc P w base sp held fuel 26 cs=some x):∃ (k:Int) (ps:List Int),Xa k/\(∀ p ∈ ps,Xa p)/\Rc σ (Here w) w [vI k,.s 1 (LK .i64 ps)] cs:=by
 obtain⟨m,_,hl,hf⟩:=gu T.ring h;obtain⟨_,h0⟩:=hf 0 3 0 1 rfl;obtain⟨_,h1⟩:=hf 1 22 1 1 rfl;obtain⟨k,hk,r0⟩:=fZ (σ:=σ) (kU T.int) h0;obtain⟨ps,hp,r1⟩:=DZ (σ:=σ) T.ints T.int h1;refine⟨k,ps,wf_i64 hk,fun p h=>wf_i64 (hp p h),?_⟩;have:=r0.append r1;rw[dh,jO (n:=1+1) hl]at this;exact this
theorem Oa (T:Qm P)(h:DataW.trod enc P w base sp held fuel 113 cs=some x):∃ e:Int × Int × Int,Rc σ (Here w) w [vI e.1,vI e.2.1,vI e.2.2] cs:=by
 obtain⟨ht,hc⟩:=RS T.arr;obtain⟨xs,m,_,_,hl,hxs,hget⟩:=DataW.trod_array ht h;have RU:∀ i,i<3->∃ y,DataW.trod enc P w base sp held m 3 (Dg cs i 1)=some y:=by
  intro i hi;have:=hget i hi;rw[hc,Xr0,Qa1 ae]at this;exact⟨_,this⟩
 obtain⟨_,h0⟩:=RU 0 ae;obtain⟨_,h1⟩:=RU 1 ae;obtain⟨_,h2⟩:=RU 2 ae;obtain⟨x0,_,r0⟩:=fZ (σ:=σ) (kU T.int) h0;obtain⟨x1,_,r1⟩:=fZ (σ:=σ) (kU T.int) h1;obtain⟨x2,_,r2⟩:=fZ (σ:=σ) (kU T.int) h2;have hl3:cs.length=3:=by
  rw[hl];have hm:=T.mono;obtain⟨fs,hfs,hall⟩:∃ fs,P.underlying 115=some (.struct fs)/\fs.toList.map (fun f=>(f.type,f.offset,P.cellsOf f.type))=[(113,0,3),(46,3,3)]:=by
   unfold lF at hm;split at hm
   ·rename_i fs hfs;simp only[Qa2,decide_eq_true_eq]at hm;exact⟨fs,hfs,hm.1⟩
   ·cases hm
  have h63:(113,0,P.cellsOf 113) ∈ [(113,0,3),(46,3,3)]\/True:=.inr trivial;have hmem:((113:Nat),(0:Nat),(3:Nat)) ∈ fs.toList.map (fun f=>(f.type,f.offset,P.cellsOf f.type)):=by rw[hall];simp
  obtain⟨f,_,he⟩:=Qj2.1 hmem;simp only[Qo2]at he;obtain⟨e1,_,e3⟩:=he;rw[e1]at e3;exact e3
 refine⟨(x0,x1,x2),?_⟩;have:=(r0.append r1).append r2;rw[dh,dh]at this;have e3:Dg cs 0 (1+1+1)=cs:=by rw[show 1+1+1=cs.length by omega,Hr]
 rw[e3]at this;exact this
theorem Ob (T:Qm P)(h:DataW.trod enc P w base sp held fuel 115 cs=some x):∃ m:Mo,m.oP/\Rc σ (Here w) w m.d.cells cs:=by
 obtain⟨k,_,hl,hf⟩:=gu T.mono h;obtain⟨_,h0⟩:=hf 0 113 0 3 rfl;obtain⟨_,h1⟩:=hf 1 46 3 3 rfl;obtain⟨e,r0⟩:=Oa (σ:=σ) T h0;obtain⟨s,a,b,ha,hb,r1⟩:=Ht (σ:=σ) T h1;refine⟨⟨e,s,a,b⟩,⟨ha,hb⟩,?_⟩;have:=r0.append r1;rw[dh,jO (n:=3+3) hl]at this;exact this
theorem Oc (T:Qm P)(h:DataW.trod enc P w base sp held fuel 48 cs=some x):∃ p:List Mo,(∀ m ∈ p,m.oP)/\Rc σ (Here w) w [PD p] cs:=by
 obtain⟨ht,hc⟩:=qW T.poly;obtain⟨es,h1,h2⟩:=l7 (σ:=σ) (Q:=fun d=>∃ m:Mo,m.oP/\d=m.d) ht ae (fun n vs y _ hy=>by
  obtain⟨m,hm,hr⟩:=Ob (σ:=σ) T hy;exact⟨_,⟨m,hm,rfl⟩,by rw[hc];rfl,by intro c hc';simp[Mo.d,D.cells]at hc';rcases hc' with rfl|rfl|rfl|rfl|rfl|rfl<;>rfl,hr⟩) h
 have:∀ es:List D,(∀ d ∈ es,∃ m:Mo,m.oP/\d=m.d)->∃ l:List Mo,(∀ m ∈ l,m.oP)/\es=l.map Mo.d:=by
  intro es
  induction es with
  | nil=>intro _;exact⟨[],aC,rfl⟩
  | cons d r ih =>
   intro hd;obtain⟨n,hn,rfl⟩:=hd d (Qi0 ..);obtain⟨l,hl,rfl⟩:=ih (fun d hd'=>hd d (Qf1 _ hd'));exact⟨n::l,by intro z hz;rcases Qg1.1 hz with rfl|hz;exact hn;exact hl z hz,rfl⟩
 obtain⟨l,hl,rfl⟩:=this es h1;rw[hc]at h2;exact⟨l,hl,h2⟩
theorem yB (T:Qm P):∀ (fuel:Nat) {cs:List Value} {x:DataW H × List MemPlace},DataW.trod enc P w base sp held fuel 50 cs=some x->∃ v:W,v.oP/\Rc σ (Here w) w v.d.cells cs:=by
 intro fuel
 induction fuel using Nat.strongRecOn with
 | ind fuel ih =>
  intro cs x h;obtain⟨k,hk,hl,hf⟩:=gu T.weight h;obtain⟨_,h0⟩:=hf 0 46 0 3 rfl;obtain⟨_,h1⟩:=hf 1 3 3 1 rfl;obtain⟨_,h2⟩:=hf 2 4 4 1 rfl;obtain⟨_,h3⟩:=hf 3 47 5 1 rfl;obtain⟨_,h4⟩:=hf 4 48 6 1 rfl;obtain⟨_,h5⟩:=hf 5 28 7 1 rfl;obtain⟨s,a,b,ha,hb,r0⟩:=Ht (σ:=σ) T h0;obtain⟨c,_,r1⟩:=fZ (σ:=σ) (kU T.int) h1;obtain⟨i,r2⟩:=D5 (σ:=σ) (Mi T.bool) h2;obtain⟨u,hu,r3⟩:=fZ (σ:=σ) (kU T.set) h3;obtain⟨p,hp,r4⟩:=Oc (σ:=σ) T h4;obtain⟨ht,hc⟩:=qW T.parts;obtain⟨es,g1,r5⟩:=l7 (σ:=σ) (Q:=fun d=>∃ v:W,v.oP/\d=v.d) ht ae (fun n vs y hn hy=>by
   obtain⟨v,hv,hr⟩:=ih n ae hy;obtain⟨sx,ax,bx,cx,ix,ux,px,DW⟩:=v;exact⟨_,⟨_,hv,rfl⟩,by rw[hc];rfl,by intro c hc';simp[W.d,D.cells]at hc';rcases hc' with rfl|rfl|rfl|rfl|rfl|rfl|rfl|rfl<;>rfl,hr⟩) h5
  have:∀ es:List D,(∀ d ∈ es,∃ v:W,v.oP/\d=v.d)->∃ l:List W,(∀ m ∈ l,m.oP)/\es=W.ds l:=by
   intro es
   induction es with
   | nil=>intro _;exact⟨[],aC,rfl⟩
   | cons d r ih =>
    intro hd;obtain⟨n,hn,rfl⟩:=hd d (Qi0 ..);obtain⟨l,hl,rfl⟩:=ih (fun d hd'=>hd d (Qf1 _ hd'));exact⟨n::l,by intro z hz;rcases Qg1.1 hz with rfl|hz;exact hn;exact hl z hz,rfl⟩
  obtain⟨ps,hps,rfl⟩:=this es g1;rw[hc]at r5;refine⟨.mk s a b c i u p ps,.mk ha hb hp (Xq hu) hps,?_⟩;have:=((((r0.append r1).append r2).append r3).append r4).append r5;rw[dh,dh,dh,dh,dh,jO (n:=3+1+1+1+1+1) hl]at this;exact this
end lift
end
set_option maxHeartbeats 8000000
set_option maxRecDepth 4000
def Mo.bM (m:Mo):Bool:=decide ((m.a.length:Int)<=2)&&decide ((m.b.length:Int)<=2)
mutual
def W.bM:W->Bool
 | .mk _ a b _ _ _ p ps=>(decide ((a.length:Int)<=3)&&decide ((b.length:Int)<=3))&&decide (p.length<=8)&&decide (ps.length<=4)&&p.all Mo.bM&&W.Fs ps
def W.Fs:List W->Bool
 | []=>true
 | w::r=>w.bM&&W.Fs r
end
theorem W.AX:∀ l:List W,W.Fs l=l.all W.bM
 | []=>rfl
 | w::r=>by simp[W.Fs,W.AX r]
theorem oQ (s:Bool)(a b:List Nat)(c:Int)(i:Bool)(u:Int)(p:List Mo)(ps:List W):W.bM (.mk s a b c i u p ps)=((decide ((a.length:Int)<=3)&&decide ((b.length:Int)<=3))&&decide (p.length<=8)&&decide (ps.length<=4)&&p.all Mo.bM&&ps.all W.bM):=by
 rw[W.bM,W.AX]
def ZF:aF:=f59.body.r.r.l.r.bl.lp
def luB:aF:=f59.body.r.r.r.l.r.bl.lp
def RV (wb:List FV)(j:Nat)(t:FV):St:=(st0 [.u,rL 0,.u,dI j,.u,.u,t,.u,.u,.u] [.box wb])
def VU (wb:List FV)(j:Nat)(t:FV):St:=(st0 [.u,rL 0,.u,.u,dI j,.u,.u,.u,t,.u] [.box wb])
def VV (wb:List FV):St:=(st0 (.u::.u::dB false::nO) [.box wb])
theorem RX (p1 p2 p3 p4 p5 p6 p8:D)(p:List Mo)(j:Nat)(m:Mo)(hl:p.length<=1000000)(hm:p[j]?=some m) :
  Ex E0 ZF (RV [.d p1,.d p2,.d p3,.d p4,.d p5,.d p6,.d (PD p),.d p8] j .u)
   (if m.bM then(.norm,RV [.d p1,.d p2,.d p3,.d p4,.d p5,.d p6,.d (PD p),.d p8] (j+1) .u) else(.ret,VV [.d p1,.d p2,.d p3,.d p4,.d p5,.d p6,.d (PD p),.d p8])):=by
 have hj:=(aS hm)
 have t:=fun n=>Ap n m.s m.a m.b 2
 have n1:(p.map Mo.d).length=p.length:=aC;have e1:(p.map Mo.d)[j]?=some m.d:=by simp[hm]
 have aP:av .i64 ((j:Int)+1)=(j:Int)+1:=wrap_i64 ae;have hk1:((j+1:Nat):Int)=(j:Int)+1:=ae;have hk0:(0:Int)<=(j:Int):=ae;have e0:(decide ((m.a.length:Int)<=2)&&decide ((m.b.length:Int)<=2))=m.bM:=rfl;rw[e0]at t;generalize m.bM=vv at*;refine Ex.of (n:=150) ?_;unfold RV VV;rw[hk1];obtain⟨e,s,a,b⟩:=m;simp only[Mo.d,PD,raw,LD]at*;generalize LL a=x1,LL b=x2,List.map Mo.d p=es at*;have i1:=idx e1;cases vv
 ·simp[ZF,f59,hj,hk0,e1,i1,n1,t]
 ·simp[ZF,f59,hj,hk0,e1,i1,n1,t,aP]
theorem Xr (p1 p2 p3 p4 p5 p6 p8:D)(p:List Mo)(hl:p.length<=1000000) :
  ∃ r,Ex E0 (.loop ZF) (RV [.d p1,.d p2,.d p3,.d p4,.d p5,.d p6,.d (PD p),.d p8] 0 .u) r /\
   ((p.all Mo.bM=true/\r=(.exit 0,RV [.d p1,.d p2,.d p3,.d p4,.d p5,.d p6,.d (PD p),.d p8] p.length (dB false))) \/
    (p.all Mo.bM=false/\r=(.ret,VV [.d p1,.d p2,.d p3,.d p4,.d p5,.d p6,.d (PD p),.d p8]))):=by
 refine Ex.inv (S:=fun j:Nat=>RV [.d p1,.d p2,.d p3,.d p4,.d p5,.d p6,.d (PD p),.d p8] j .u) (fun j=>p.length-j) (fun j=>j<=p.length/\p.all Mo.bM=(p.drop j).all Mo.bM) _ ?_ 0 ⟨aC,aC⟩;rintro j ⟨q1,q2⟩
 by_cases hj:j<p.length
 ·have hm:p[j]?=some (p[j]'hj):=Qa1 hj;have d1:p.drop j=p[j]'hj::p.drop (j+1):=Qi2 hj;have hr:=RX p1 p2 p3 p4 p5 p6 p8 p j _ hl hm;rw[d1,Xy2]at q2;cases hv:Mo.bM (p[j]'hj)
  ·rw[hv]at hr q2;exact .inr ⟨_,hr,aC,.inr ⟨by simpa using q2,rfl⟩⟩
  ·rw[hv]at hr q2;exact .inl ⟨j+1,hr,ae,ae,by simpa using q2⟩
 ·have dw:j=p.length:=ae;subst dw;have n1:(p.map Mo.d).length=p.length:=aC;rw[Qp2]at q2;refine .inr ⟨_,Ex.of (n:=60) ?_,?_,.inl ⟨by rw[q2];rfl,rfl⟩⟩
  ·unfold RV;simp only[PD];generalize List.map Mo.d p=l1,p.length=m at*;simp[ZF,f59,n1]
  ·simp
theorem RY (p1 p2 p3 p4 p5 p6 p7:D)(ws:List W)(j:Nat)(w:W)(hl:ws.length<=1000000)(hm:ws[j]?=some w)(hc:Ca E0 59 [.d w.d] (dB w.bM,none)) :
  Ex E0 luB (VU [.d p1,.d p2,.d p3,.d p4,.d p5,.d p6,.d p7,.d (.s 8 (W.ds ws))] j .u)
   (if w.bM then(.norm,VU [.d p1,.d p2,.d p3,.d p4,.d p5,.d p6,.d p7,.d (.s 8 (W.ds ws))] (j+1) .u) else(.ret,VV [.d p1,.d p2,.d p3,.d p4,.d p5,.d p6,.d p7,.d (.s 8 (W.ds ws))])):=by
 have hj:=(aS hm)
 obtain⟨N,t⟩:=hc.get;have n1:(W.ds ws).length=ws.length:=by simp[W.fI]
 have e1:(W.ds ws)[j]?=some w.d:=by simp[W.fI,hm]
 have aP:av .i64 ((j:Int)+1)=(j:Int)+1:=wrap_i64 ae;have hk1:((j+1:Nat):Int)=(j:Int)+1:=ae;have hk0:(0:Int)<=(j:Int):=ae;generalize w.bM=vv at*;clear hm;refine Ex.of (n:=N+150) ?_;unfold VU VV;rw[hk1];obtain⟨sx,ax,bx,cx,ix,ux,px,DW⟩:=w;simp only[W.d,PD,LD]at*;generalize LL ax=x1,LL bx=x2,List.map Mo.d px=x5,W.ds DW=x7,W.ds ws=es at*;have i1:=idx e1;cases vv
 ·simp[luB,f59,hj,hk0,e1,i1,n1,t]
 ·simp[luB,f59,hj,hk0,e1,i1,n1,t,aP]
theorem Xt (p1 p2 p3 p4 p5 p6 p7:D)(ws:List W)(hl:ws.length<=1000000)(hc:∀ w ∈ ws,Ca E0 59 [.d w.d] (dB w.bM,none)) :
  ∃ r,Ex E0 (.loop luB) (VU [.d p1,.d p2,.d p3,.d p4,.d p5,.d p6,.d p7,.d (.s 8 (W.ds ws))] 0 .u) r /\
   ((ws.all W.bM=true/\r=(.exit 2,VU [.d p1,.d p2,.d p3,.d p4,.d p5,.d p6,.d p7,.d (.s 8 (W.ds ws))] ws.length (dB false))) \/
    (ws.all W.bM=false/\r=(.ret,VV [.d p1,.d p2,.d p3,.d p4,.d p5,.d p6,.d p7,.d (.s 8 (W.ds ws))]))):=by
 refine Ex.inv (S:=fun j:Nat=>VU [.d p1,.d p2,.d p3,.d p4,.d p5,.d p6,.d p7,.d (.s 8 (W.ds ws))] j .u) (fun j=>ws.length-j) (fun j=>j<=ws.length/\ws.all W.bM=(ws.drop j).all W.bM) _ ?_ 0 ⟨aC,aC⟩;rintro j ⟨q1,q2⟩
 by_cases hj:j<ws.length
 ·have hm:ws[j]?=some (ws[j]'hj):=Qa1 hj;have d1:ws.drop j=ws[j]'hj::ws.drop (j+1):=Qi2 hj;have hr:=RY p1 p2 p3 p4 p5 p6 p7 ws j _ hl hm (hc _ (Qj1 hj));rw[d1,Xy2]at q2;cases hv:W.bM (ws[j]'hj)
  ·rw[hv]at hr q2;exact .inr ⟨_,hr,aC,.inr ⟨by simpa using q2,rfl⟩⟩
  ·rw[hv]at hr q2;exact .inl ⟨j+1,hr,ae,ae,by simpa using q2⟩
 ·have dw:j=ws.length:=ae;subst dw;have n1:(W.ds ws).length=ws.length:=by simp[W.fI]
  rw[Qp2]at q2;refine .inr ⟨_,Ex.of (n:=60) ?_,?_,.inl ⟨by rw[q2];rfl,rfl⟩⟩
  ·unfold VU;generalize W.ds ws=l1,ws.length=m at*;simp[luB,f59,n1]
  ·simp
theorem Od (s:Bool)(a b:List Nat)(c:Int)(i:Bool)(u:Int)(p:List Mo)(ps:List W)(hc:∀ w ∈ ps,Ca E0 59 [.d w.d] (dB w.bM,none)) :
  Ca E0 59 [.d (W.mk s a b c i u p ps).d] (dB (W.bM (.mk s a b c i u p ps)),none):=by
 rw[oQ];have t:=fun n=>Ap n s a b 3
 have n1:(p.map Mo.d).length=p.length:=aC;have n2:(W.ds ps).length=ps.length:=by simp[W.fI]
 have hA:Ex E0 f59.body.l (st0 (.d (W.mk s a b c i u p ps).d::CK) [])
   (.norm,(st0 (.u::rL 0::zf) [.box [dB s,.d (LD a),.d (LD b),dI c,dB i,.d (.v (.int .u64 u)),.d (PD p),.d (.s 8 (W.ds ps))]])):=by
  refine Ex.of (n:=40) ?_;simp only[W.d,PD,LD];generalize LL a=x1;generalize LL b=x2;generalize List.map Mo.d p=x5;generalize W.ds ps=x7;simp[f59]
 by_cases hh:((decide ((a.length:Int)<=3)&&decide ((b.length:Int)<=3))&&decide (p.length<=8)&&decide (ps.length<=4))=true
 ·rw[hh,Ql0];simp only[Qa2,decide_eq_true_eq]at hh;obtain⟨⟨⟨h1,h2⟩,h3⟩,h4⟩:=hh;rw[decide_eq_true h1,decide_eq_true h2]at t;have g3:¬ (8:Int)<(p.length:Int):=ae;have g4:¬ (4:Int)<(ps.length:Int):=ae;have hB:Ex E0 f59.body.r.l (st0 (.u::rL 0::zf) [.box [dB s,.d (LD a),.d (LD b),dI c,dB i,.d (.v (.int .u64 u)),.d (PD p),.d (.s 8 (W.ds ps))]])
    (.norm,(st0 (.u::rL 0::.u::.u::.u::dB false::mO) [.box [dB s,.d (LD a),.d (LD b),dI c,dB i,.d (.v (.int .u64 u)),.d (PD p),.d (.s 8 (W.ds ps))]])):=by
   refine Ex.of (n:=120) ?_;clear hA hc;simp only[PD,LD,raw]at t ⊢;generalize LL a=x1 at t ⊢;generalize LL b=x2 at t ⊢;generalize List.map Mo.d p=x5 at n1 ⊢;generalize W.ds ps=x7 at n2 ⊢;simp[f59,t,n1,n2,g3,g4]
  have hC:Ex E0 f59.body.r.r.l.l (st0 (.u::rL 0::.u::.u::.u::dB false::mO) [.box [dB s,.d (LD a),.d (LD b),dI c,dB i,.d (.v (.int .u64 u)),.d (PD p),.d (.s 8 (W.ds ps))]])
    (.norm,RV [dB s,.d (LD a),.d (LD b),dI c,dB i,.d (.v (.int .u64 u)),.d (PD p),.d (.s 8 (W.ds ps))] 0 .u):=by
   refine Ex.of (n:=40) ?_;unfold RV;clear hA hB hc;generalize LD a=x1;generalize LD b=x2;generalize PD p=x5;generalize W.ds ps=x7;simp[f59]
  obtain⟨r,hr,hq⟩:=Xr (vB s) (LD a) (LD b) (vI c) (vB i) (.v (.int .u64 u)) (.s 8 (W.ds ps)) p ae;rcases hq with ⟨hp,rfl⟩|⟨hp,rfl⟩
  ·rw[hp,Ql0];have hD:Ex E0 f59.body.r.r.r.l.l (RV [dB s,.d (LD a),.d (LD b),dI c,dB i,.d (.v (.int .u64 u)),.d (PD p),.d (.s 8 (W.ds ps))] p.length (dB false))
     (.norm,VU [dB s,.d (LD a),.d (LD b),dI c,dB i,.d (.v (.int .u64 u)),.d (PD p),.d (.s 8 (W.ds ps))] 0 .u):=by
    refine Ex.of (n:=40) ?_;unfold RV VU;clear hA hB hC hc hr;generalize LD a=x1;generalize LD b=x2;generalize PD p=x5;generalize W.ds ps=x7;simp[f59]
   obtain⟨r2,hr2,hq2⟩:=Xt (vB s) (LD a) (LD b) (vI c) (vB i) (.v (.int .u64 u)) (PD p) ps ae hc;rcases hq2 with ⟨hw,rfl⟩|⟨hw,rfl⟩
   ·rw[hw];refine Ca.body (o:=.ret) (st1:=(st0 (.u::.u::dB true::nO) [.box [dB s,.d (LD a),.d (LD b),dI c,dB i,.d (.v (.int .u64 u)),.d (PD p),.d (.s 8 (W.ds ps))]])) rfl (k59:E0.fn _=_) rfl ?_ (by intro id h;cases h) ?_
    ·show Ex E0 (.seq f59.body.l (.seq f59.body.r.l (.seq (.seq f59.body.r.r.l.l (.block 0 (.loop ZF))) (.seq (.seq f59.body.r.r.r.l.l (.block 2 (.loop luB))) f59.body.r.r.r.r)))) _ _;refine hA.seq (hB.seq ((hC.seq hr.block).seq ((hD.seq hr2.block).seq (Ex.of (n:=40) ?_))));unfold VU;clear hA hB hC hD hr hr2 hc;generalize LD a=x1;generalize LD b=x2;generalize PD p=x5;generalize W.ds ps=x7;simp[f59]
    ·simp[f59]
   ·rw[hw];refine Ca.body (o:=.ret) (st1:=VV [dB s,.d (LD a),.d (LD b),dI c,dB i,.d (.v (.int .u64 u)),.d (PD p),.d (.s 8 (W.ds ps))]) rfl (k59:E0.fn _=_) rfl ?_ (by intro id h;cases h) ?_
    ·show Ex E0 (.seq f59.body.l (.seq f59.body.r.l (.seq (.seq f59.body.r.r.l.l (.block 0 (.loop ZF))) (.seq (.seq f59.body.r.r.r.l.l (.block 2 (.loop luB))) f59.body.r.r.r.r)))) _ _;exact hA.seq (hB.seq ((hC.seq hr.block).seq (hD.seq hr2.bG).bN))
    ·simp[f59,VV]
  ·rw[hp,Qs1];refine Ca.body (o:=.ret) (st1:=VV [dB s,.d (LD a),.d (LD b),dI c,dB i,.d (.v (.int .u64 u)),.d (PD p),.d (.s 8 (W.ds ps))]) rfl (k59:E0.fn _=_) rfl ?_ (by intro id h;cases h) ?_
   ·show Ex E0 (.seq f59.body.l (.seq f59.body.r.l (.seq (.seq f59.body.r.r.l.l (.block 0 (.loop ZF))) f59.body.r.r.r))) _ _;exact hA.seq (hB.seq (hC.seq hr.bG).bN)
   ·simp[f59,VV]
 ·simp only[Xp2]at hh;rw[hh,Qs1,Qs1];have hg:((decide ((a.length:Int)<=3)&&decide ((b.length:Int)<=3))=false)\/((decide ((a.length:Int)<=3)&&decide ((b.length:Int)<=3))=true/\(8:Int)<(p.length:Int))\/((decide ((a.length:Int)<=3)&&decide ((b.length:Int)<=3))=true/\¬ (8:Int)<(p.length:Int)/\(4:Int)<(ps.length:Int)):=by
   cases hq:(decide ((a.length:Int)<=3)&&decide ((b.length:Int)<=3))
   ·exact .inl rfl
   ·rw[hq,Ql0]at hh
    by_cases h3:p.length<=8
    ·rw[decide_eq_true h3,Ql0,decide_eq_false_iff_not]at hh;exact .inr (.inr ⟨rfl,ae,ae⟩)
    ·exact .inr (.inl ⟨rfl,ae⟩)
  clear hA hc hh;refine Ca.bO (n:=150) ?_;rw[aB rfl (k59:E0.fn _=_) rfl];generalize (decide ((a.length:Int)<=3)&&decide ((b.length:Int)<=3))=q at*;simp only[W.d,PD,LD,raw]at*;generalize LL a=x1,LL b=x2,List.map Mo.d p=x5,W.ds ps=x7 at*;rcases hg with rfl|⟨rfl,h3⟩|⟨rfl,h3,h4⟩
  ·simp[f59,t]
  ·simp[f59,t,n1,h3]
  ·simp[f59,t,n1,n2,h3,h4]
theorem AY:∀ w:W,Ca E0 59 [.d w.d] (dB w.bM,none)
 | .mk s a b c i u p ps=>Od s a b c i u p ps (fun w hw=>AY w)
termination_by w=>sizeOf w
decreasing_by
 have:=Xo2 hw;simp;omega
theorem Dh (n:Nat)(k:Int)(ps:List Int):CL E0 (n+40) 30 [.d (bD k ps)] []=some (dB (decide ((ps.length:Int)<=6)),none):=by
 have n1:(LK .i64 ps).length=ps.length:=by simp[LK]
 rw[aB rfl (aN 30 f30:E0.fn _=_) rfl];unfold bD;simp[f30,n1]
theorem vH:∀ w:W,w.oP->w.bM=true->w.OK
 | .mk s a b c i u p ps,ht,hl=>by
  rw[oQ]at hl;simp only[Qa2,decide_eq_true_eq]at hl;obtain⟨⟨⟨⟨⟨h1,h2⟩,h3⟩,h4⟩,h5⟩,h6⟩:=hl;cases ht with
  | mk ha hb hp _ hw =>
   refine .mk ha hb ae ae ⟨fun m hm => ?_,ae⟩ ae (fun w hm=>vH w (hw w hm) (Qf0.1 h6 w hm));have:=Qf0.1 h5 m hm;simp only[Mo.bM,Qa2,decide_eq_true_eq]at this;exact⟨(hp m hm).1,(hp m hm).2,ae,ae⟩
termination_by w=>sizeOf w
decreasing_by
 have:=Xo2 hm;simp;omega
end Fi.S
