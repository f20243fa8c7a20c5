import Derived.Test.YthojoinggmjklaaGreatDoorCE
import Derived.Test.YthojoinggmjklaaGreatDoorFiH
set_option linter.unusedVariables false
set_option linter.unusedSimpArgs false
noncomputable section
namespace Fi.S
open Go Fi
section
structure N9 (P:Program):Prop where
 ring:kI P 24 [(3,0,1),(22,1,1)] 2=true
 rat:kI P 41 [(4,0,1),(39,1,1),(39,2,1)] 3=true
 mono:kI P 61 [(59,0,3),(41,3,3)] 6=true
 weight:kI P 45 [(41,0,3),(3,3,1),(4,4,1),(42,5,1),(43,6,1),(25,7,1)] 8=true
 ints:sliceB P 22 3 1=true
 limbs:sliceB P 39 122 1=true
 poly:sliceB P 43 61 6=true
 parts:sliceB P 25 45 8=true
 arr:I9 P 59 3 3 1=true
 int:L_ P 3 .i64=true
 set:L_ P 42 .u64=true
 limb:L_ P 122 .u32=true
 bool:PY P 4=true
def Mo.nJ (m:Mo):Prop:=bK m.a/\bK m.b
def zL (u:Int):Prop:=0<=u/\u<18446744073709551616
inductive W.nJ:W->Prop
 | mk {s:Bool} {a b:List Nat} {c:Int} {i:Bool} {u:Int} {p:List Mo} {ps:List W} (ha:bK a) (hb:bK b) (hp:∀ m ∈ p,m.nJ) (hu:zL u) (h:∀ w ∈ ps,W.nJ w):W.nJ (.mk s a b c i u p ps)
theorem jw {cs:List Value}{n:Nat}(h:cs.length=n):BC cs 0 n=cs:=by rw[<-h,FX]
section lift
variable {H:Type} {enc:TypeId × Value->H} {P:Program} {w:World} {base:Nat} {held:Bool} {σ:Nat->Option FuncId} {sp:Nat->Bool} {fuel:Nat} {cs:List Value} {x:DataW H × List MemPlace}
theorem wf_i64 {n:Int}(h:(Lit.int .i64 n).wf=true):Uw n:=by
 simp only[Lit.wf,Bool.and_eq_true,decide_eq_true_eq]at h;have e1:IntKind.min .i64=-9223372036854775808:=by rfl
 have e2:IntKind.max .i64=9223372036854775807:=by rfl
 unfold Uw;rw[e1,e2]at h;omega
theorem UM {n:Int}(h:(Lit.int .u64 n).wf=true):zL n:=by
 simp only[Lit.wf,Bool.and_eq_true,decide_eq_true_eq]at h;have e1:IntKind.min .u64=0:=by rfl
 have e2:IntKind.max .u64=18446744073709551615:=by rfl
 unfold zL;rw[e1,e2]at h;omega
theorem zM (T:N9 P)(h:DataW.trod enc P w base sp held fuel 39 cs=some x):∃ a:List Nat,bK a/\Rc σ (Here w) w [LD a] cs:=by
 obtain⟨l,h1,h2⟩:=wy (σ:=σ) T.limbs T.limb h;have:∀ l:List Int,(∀ n ∈ l,(Lit.int .u32 n).wf=true)->∃ a:List Nat,bK a/\(l.map fun n=>D.v (.int .u32 n))=LL a:=by
  intro l
  induction l with
  | nil=>intro _;exact⟨[],(by intro y hy;cases hy),rfl⟩
  | cons n r ih =>
   intro hn;obtain⟨a,ha,e⟩:=ih (fun z hz=>hn z (List.mem_cons_of_mem _ hz));have hw:=hn n (List.mem_cons_self ..);simp only[Lit.wf,Bool.and_eq_true,decide_eq_true_eq]at hw;have e1:IntKind.min .u32=0:=by rfl
   have e2:IntKind.max .u32=4294967295:=by rfl
   rw[e1,e2]at hw;refine⟨n.toNat::a,?_,?_⟩
   ·intro y hy;rcases List.mem_cons.1 hy with rfl|hy
    ·omega
    ·exact ha y hy
   ·have:((n.toNat:Nat):Int)=n:=by omega
    simp only[List.map_cons,LL,this];rw[e];rfl
 obtain⟨a,ha,e⟩:=this l h1;rw[e]at h2;exact⟨a,ha,h2⟩
theorem FY (T:N9 P)(h:DataW.trod enc P w base sp held fuel 41 cs=some x):∃ (s:Bool) (a b:List Nat),bK a/\bK b/\Rc σ (Here w) w [.v (.bool s),LD a,LD b] cs:=by
 obtain⟨m,_,hl,hf⟩:=fO T.rat h;obtain⟨_,h0⟩:=hf 0 4 0 1 rfl;obtain⟨_,h1⟩:=hf 1 39 1 1 rfl;obtain⟨_,h2⟩:=hf 2 39 2 1 rfl;obtain⟨s,r0⟩:=Cm (σ:=σ) (Kl T.bool) h0;obtain⟨a,ha,r1⟩:=zM (σ:=σ) T h1;obtain⟨b,hb,r2⟩:=zM (σ:=σ) T h2;refine⟨s,a,b,ha,hb,?_⟩;have:=(r0.append r1).append r2;rw[b_,b_,jw (n:=1+1+1) hl]at this;exact this
theorem Ma (T:N9 P)(h:DataW.trod enc P w base sp held fuel 24 cs=some x):∃ (k:Int) (ps:List Int),Uw k/\(∀ p ∈ ps,Uw p)/\Rc σ (Here w) w [.v (.int .i64 k),.s 1 (LK .i64 ps)] cs:=by
 obtain⟨m,_,hl,hf⟩:=fO T.ring h;obtain⟨_,h0⟩:=hf 0 3 0 1 rfl;obtain⟨_,h1⟩:=hf 1 22 1 1 rfl;obtain⟨k,hk,r0⟩:=fG (σ:=σ) (ky T.int) h0;obtain⟨ps,hp,r1⟩:=wy (σ:=σ) T.ints T.int h1;refine⟨k,ps,wf_i64 hk,fun p h=>wf_i64 (hp p h),?_⟩;have:=r0.append r1;rw[b_,jw (n:=1+1) hl]at this;exact this
theorem Mc (T:N9 P)(h:DataW.trod enc P w base sp held fuel 59 cs=some x):∃ e:Int × Int × Int,Rc σ (Here w) w [.v (.int .i64 e.1),.v (.int .i64 e.2.1),.v (.int .i64 e.2.2)] cs:=by
 obtain⟨ht,hc⟩:=PZ T.arr;obtain⟨xs,m,_,_,hl,hxs,hget⟩:=DataW.trod_array ht h;have P5:∀ i,i<3->∃ y,DataW.trod enc P w base sp held m 3 (BC cs i 1)=some y:=by
  intro i hi;have:=hget i hi;rw[hc,Nat.mul_one,List.getElem?_eq_getElem (by omega)]at this;exact⟨_,this⟩
 obtain⟨_,h0⟩:=P5 0 (by omega);obtain⟨_,h1⟩:=P5 1 (by omega);obtain⟨_,h2⟩:=P5 2 (by omega);obtain⟨x0,_,r0⟩:=fG (σ:=σ) (ky T.int) h0;obtain⟨x1,_,r1⟩:=fG (σ:=σ) (ky T.int) h1;obtain⟨x2,_,r2⟩:=fG (σ:=σ) (ky T.int) h2;have hl3:cs.length=3:=by
  rw[hl];have hm:=T.mono;obtain⟨fs,hfs,hall⟩:∃ fs,P.underlying 61=some (.struct fs)/\fs.toList.map (fun f=>(f.type,f.offset,P.cellsOf f.type))=[(59,0,3),(41,3,3)]:=by
   unfold kI at hm;split at hm
   ·rename_i fs hfs;simp only[Bool.and_eq_true,decide_eq_true_eq]at hm;exact⟨fs,hfs,hm.1⟩
   ·cases hm
  have h63:(59,0,P.cellsOf 59) ∈ [(59,0,3),(41,3,3)]\/True:=.inr trivial;have hmem:((59:Nat),(0:Nat),(3:Nat)) ∈ fs.toList.map (fun f=>(f.type,f.offset,P.cellsOf f.type)):=by rw[hall];simp
  obtain⟨f,_,he⟩:=List.mem_map.1 hmem;simp only[Prod.mk.injEq]at he;obtain⟨e1,_,e3⟩:=he;rw[e1]at e3;exact e3
 refine⟨(x0,x1,x2),?_⟩;have:=(r0.append r1).append r2;rw[b_,b_]at this;have e3:BC cs 0 (1+1+1)=cs:=by rw[show 1+1+1=cs.length by omega,FX]
 rw[e3]at this;exact this
theorem Md (T:N9 P)(h:DataW.trod enc P w base sp held fuel 61 cs=some x):∃ m:Mo,m.nJ/\Rc σ (Here w) w m.d.cells cs:=by
 obtain⟨k,_,hl,hf⟩:=fO T.mono h;obtain⟨_,h0⟩:=hf 0 59 0 3 rfl;obtain⟨_,h1⟩:=hf 1 41 3 3 rfl;obtain⟨e,r0⟩:=Mc (σ:=σ) T h0;obtain⟨s,a,b,ha,hb,r1⟩:=FY (σ:=σ) T h1;refine⟨⟨e,s,a,b⟩,⟨ha,hb⟩,?_⟩;have:=r0.append r1;rw[b_,jw (n:=3+3) hl]at this;exact this
theorem Me (T:N9 P)(h:DataW.trod enc P w base sp held fuel 43 cs=some x):∃ p:List Mo,(∀ m ∈ p,m.nJ)/\Rc σ (Here w) w [PD p] cs:=by
 obtain⟨ht,hc⟩:=pO T.poly;obtain⟨es,h1,h2⟩:=lq (σ:=σ) (Q:=fun d=>∃ m:Mo,m.nJ/\d=m.d) ht (by omega) (fun n vs y _ hy=>by
  obtain⟨m,hm,hr⟩:=Md (σ:=σ) T hy;exact⟨_,⟨m,hm,rfl⟩,by rw[hc];rfl,by intro c hc';simp[Mo.d,D.cells]at hc';rcases hc' with rfl|rfl|rfl|rfl|rfl|rfl<;>rfl,hr⟩) h
 have:∀ es:List D,(∀ d ∈ es,∃ m:Mo,m.nJ/\d=m.d)->∃ l:List Mo,(∀ m ∈ l,m.nJ)/\es=l.map Mo.d:=by
  intro es
  induction es with
  | nil=>intro _;exact⟨[],by simp,rfl⟩
  | cons d r ih =>
   intro hd;obtain⟨n,hn,rfl⟩:=hd d (List.mem_cons_self ..);obtain⟨l,hl,rfl⟩:=ih (fun d hd'=>hd d (List.mem_cons_of_mem _ hd'));exact⟨n::l,by intro z hz;rcases List.mem_cons.1 hz with rfl|hz;exact hn;exact hl z hz,rfl⟩
 obtain⟨l,hl,rfl⟩:=this es h1;rw[hc]at h2;exact⟨l,hl,h2⟩
theorem xw (T:N9 P):∀ (fuel:Nat) {cs:List Value} {x:DataW H × List MemPlace},DataW.trod enc P w base sp held fuel 45 cs=some x->∃ v:W,v.nJ/\Rc σ (Here w) w v.d.cells cs:=by
 intro fuel
 induction fuel using Nat.strongRecOn with
 | ind fuel ih =>
  intro cs x h;obtain⟨k,hk,hl,hf⟩:=fO T.weight h;obtain⟨_,h0⟩:=hf 0 41 0 3 rfl;obtain⟨_,h1⟩:=hf 1 3 3 1 rfl;obtain⟨_,h2⟩:=hf 2 4 4 1 rfl;obtain⟨_,h3⟩:=hf 3 42 5 1 rfl;obtain⟨_,h4⟩:=hf 4 43 6 1 rfl;obtain⟨_,h5⟩:=hf 5 25 7 1 rfl;obtain⟨s,a,b,ha,hb,r0⟩:=FY (σ:=σ) T h0;obtain⟨c,_,r1⟩:=fG (σ:=σ) (ky T.int) h1;obtain⟨i,r2⟩:=Cm (σ:=σ) (Kl T.bool) h2;obtain⟨u,hu,r3⟩:=fG (σ:=σ) (ky T.set) h3;obtain⟨p,hp,r4⟩:=Me (σ:=σ) T h4;obtain⟨ht,hc⟩:=pO T.parts;obtain⟨es,g1,r5⟩:=lq (σ:=σ) (Q:=fun d=>∃ v:W,v.nJ/\d=v.d) ht (by omega) (fun n vs y hn hy=>by
   obtain⟨v,hv,hr⟩:=ih n (by omega) hy;obtain⟨sx,ax,bx,cx,ix,ux,px,Ci⟩:=v;exact⟨_,⟨_,hv,rfl⟩,by rw[hc];rfl,by intro c hc';simp[W.d,D.cells]at hc';rcases hc' with rfl|rfl|rfl|rfl|rfl|rfl|rfl|rfl<;>rfl,hr⟩) h5
  have:∀ es:List D,(∀ d ∈ es,∃ v:W,v.nJ/\d=v.d)->∃ l:List W,(∀ m ∈ l,m.nJ)/\es=W.ds l:=by
   intro es
   induction es with
   | nil=>intro _;exact⟨[],by simp,rfl⟩
   | cons d r ih =>
    intro hd;obtain⟨n,hn,rfl⟩:=hd d (List.mem_cons_self ..);obtain⟨l,hl,rfl⟩:=ih (fun d hd'=>hd d (List.mem_cons_of_mem _ hd'));exact⟨n::l,by intro z hz;rcases List.mem_cons.1 hz with rfl|hz;exact hn;exact hl z hz,rfl⟩
  obtain⟨ps,hps,rfl⟩:=this es g1;rw[hc]at r5;refine⟨.mk s a b c i u p ps,.mk ha hb hp (UM hu) hps,?_⟩;have:=((((r0.append r1).append r2).append r3).append r4).append r5;rw[b_,b_,b_,b_,b_,jw (n:=3+1+1+1+1+1) hl]at this;exact this
end lift
end
end Fi.S
namespace Fi.S
open Go Fi
set_option maxHeartbeats 8000000
set_option maxRecDepth 4000
def Mo.bI (m:Mo):Bool:=decide ((m.a.length:Int)<=2)&&decide ((m.b.length:Int)<=2)
mutual
def W.bI:W->Bool
 | .mk _ a b _ _ _ p ps=>(decide ((a.length:Int)<=3)&&decide ((b.length:Int)<=3))&&decide (p.length<=8)&&decide (ps.length<=4)&&p.all Mo.bI&&W.D7 ps
def W.D7:List W->Bool
 | []=>true
 | w::r=>w.bI&&W.D7 r
end
theorem W.zN:∀ l:List W,W.D7 l=l.all W.bI
 | []=>rfl
 | w::r=>by simp[W.D7,W.zN r]
theorem nK (s:Bool)(a b:List Nat)(c:Int)(i:Bool)(u:Int)(p:List Mo)(ps:List W):W.bI (.mk s a b c i u p ps)=((decide ((a.length:Int)<=3)&&decide ((b.length:Int)<=3))&&decide (p.length<=8)&&decide (ps.length<=4)&&p.all Mo.bI&&ps.all W.bI):=by
 rw[W.bI,W.zN]
def WM:aD:=f59.body.r.r.l.r.bl.lp
def Yq:aD:=f59.body.r.r.r.l.r.bl.lp
def P6 (wb:List FV)(j:Nat)(t:FV):St:=(st0 [.u,.r (.loc 0) 0,.u,.d (.v (.int .i64 j)),.u,.u,t,.u,.u,.u] [.box wb])
def Tk (wb:List FV)(j:Nat)(t:FV):St:=(st0 [.u,.r (.loc 0) 0,.u,.u,.d (.v (.int .i64 j)),.u,.u,.u,t,.u] [.box wb])
def Tm (wb:List FV):St:=(st0 [.u,.u,.d (.v (.bool false)),.u,.u,.u,.u,.u,.u,.u] [.box wb])
theorem P7 (p1 p2 p3 p4 p5 p6 p8:D)(p:List Mo)(j:Nat)(m:Mo)(hl:p.length<=1000000)(hm:p[j]?=some m) :
  Ex E0 WM (P6 [.d p1,.d p2,.d p3,.d p4,.d p5,.d p6,.d (PD p),.d p8] j .u)
   (if m.bI then(.norm,P6 [.d p1,.d p2,.d p3,.d p4,.d p5,.d p6,.d (PD p),.d p8] (j+1) .u) else(.ret,Tm [.d p1,.d p2,.d p3,.d p4,.d p5,.d p6,.d (PD p),.d p8])):=by
 have hj:=(aT hm)
 have t:=fun n=>zw n m.s m.a m.b 2
 have n1:(p.map Mo.d).length=p.length:=by simp
 have e1:(p.map Mo.d)[j]?=some m.d:=by simp[hm]
 have aR:ak .i64 ((j:Int)+1)=(j:Int)+1:=wrap_i64 (by omega);have hk1:((j+1:Nat):Int)=(j:Int)+1:=by omega
 have hk0:(0:Int)<=(j:Int):=by omega
 have e0:(decide ((m.a.length:Int)<=2)&&decide ((m.b.length:Int)<=2))=m.bI:=rfl;rw[e0]at t;generalize m.bI=vv at*;refine Ex.of (n:=150) ?_;unfold P6 Tm;rw[hk1];obtain⟨e,s,a,b⟩:=m;simp only[Mo.d,PD,raw,LD]at*;generalize LL a=x1,LL b=x2,List.map Mo.d p=es at*;have i1:=idx e1;cases vv
 ·simp -implicitDefEqProofs[WM,f59,hj,hk0,e1,i1,n1,t]
 ·simp -implicitDefEqProofs[WM,f59,hj,hk0,e1,i1,n1,t,aR]
theorem UN (p1 p2 p3 p4 p5 p6 p8:D)(p:List Mo)(hl:p.length<=1000000) :
  ∃ r,Ex E0 (.loop WM) (P6 [.d p1,.d p2,.d p3,.d p4,.d p5,.d p6,.d (PD p),.d p8] 0 .u) r /\
   ((p.all Mo.bI=true/\r=(.exit 0,P6 [.d p1,.d p2,.d p3,.d p4,.d p5,.d p6,.d (PD p),.d p8] p.length (.d (.v (.bool false))))) \/
    (p.all Mo.bI=false/\r=(.ret,Tm [.d p1,.d p2,.d p3,.d p4,.d p5,.d p6,.d (PD p),.d p8]))):=by
 refine Ex.inv (S:=fun j:Nat=>P6 [.d p1,.d p2,.d p3,.d p4,.d p5,.d p6,.d (PD p),.d p8] j .u) (fun j=>p.length-j) (fun j=>j<=p.length/\p.all Mo.bI=(p.drop j).all Mo.bI) _ ?_ 0 ⟨by simp,by simp⟩;rintro j ⟨q1,q2⟩
 by_cases hj:j<p.length
 ·have hm:p[j]?=some (p[j]'hj):=List.getElem?_eq_getElem hj;have d1:p.drop j=p[j]'hj::p.drop (j+1):=List.drop_eq_getElem_cons hj;have hr:=P7 p1 p2 p3 p4 p5 p6 p8 p j _ hl hm;rw[d1,List.all_cons]at q2;cases hv:Mo.bI (p[j]'hj)
  ·rw[hv]at hr q2;exact .inr ⟨_,hr,by simp,.inr ⟨by simpa using q2,rfl⟩⟩
  ·rw[hv]at hr q2;exact .inl ⟨j+1,hr,by omega,by omega,by simpa using q2⟩
 ·have eP:j=p.length:=by omega
  subst eP;have n1:(p.map Mo.d).length=p.length:=by simp
  rw[List.drop_length]at q2;refine .inr ⟨_,Ex.of (n:=60) ?_,?_,.inl ⟨by rw[q2];rfl,rfl⟩⟩
  ·unfold P6;simp only[PD];generalize List.map Mo.d p=l1,p.length=m at*;simp -implicitDefEqProofs[WM,f59,n1]
  ·simp
theorem P8 (p1 p2 p3 p4 p5 p6 p7:D)(ws:List W)(j:Nat)(w:W)(hl:ws.length<=1000000)(hm:ws[j]?=some w)(hc:Ca E0 59 [.d w.d] (.d (.v (.bool w.bI)),none)) :
  Ex E0 Yq (Tk [.d p1,.d p2,.d p3,.d p4,.d p5,.d p6,.d p7,.d (.s 8 (W.ds ws))] j .u)
   (if w.bI then(.norm,Tk [.d p1,.d p2,.d p3,.d p4,.d p5,.d p6,.d p7,.d (.s 8 (W.ds ws))] (j+1) .u) else(.ret,Tm [.d p1,.d p2,.d p3,.d p4,.d p5,.d p6,.d p7,.d (.s 8 (W.ds ws))])):=by
 have hj:=(aT hm)
 obtain⟨N,t⟩:=hc.get;have n1:(W.ds ws).length=ws.length:=by simp[W.fA]
 have e1:(W.ds ws)[j]?=some w.d:=by simp[W.fA,hm]
 have aR:ak .i64 ((j:Int)+1)=(j:Int)+1:=wrap_i64 (by omega);have hk1:((j+1:Nat):Int)=(j:Int)+1:=by omega
 have hk0:(0:Int)<=(j:Int):=by omega
 generalize w.bI=vv at*;clear hm;refine Ex.of (n:=N+150) ?_;unfold Tk Tm;rw[hk1];obtain⟨sx,ax,bx,cx,ix,ux,px,Ci⟩:=w;simp only[W.d,PD,LD]at*;generalize LL ax=x1,LL bx=x2,List.map Mo.d px=x5,W.ds Ci=x7,W.ds ws=es at*;have i1:=idx e1;cases vv
 ·simp -implicitDefEqProofs[Yq,f59,hj,hk0,e1,i1,n1,t]
 ·simp -implicitDefEqProofs[Yq,f59,hj,hk0,e1,i1,n1,t,aR]
theorem UO (p1 p2 p3 p4 p5 p6 p7:D)(ws:List W)(hl:ws.length<=1000000)(hc:∀ w ∈ ws,Ca E0 59 [.d w.d] (.d (.v (.bool w.bI)),none)) :
  ∃ r,Ex E0 (.loop Yq) (Tk [.d p1,.d p2,.d p3,.d p4,.d p5,.d p6,.d p7,.d (.s 8 (W.ds ws))] 0 .u) r /\
   ((ws.all W.bI=true/\r=(.exit 2,Tk [.d p1,.d p2,.d p3,.d p4,.d p5,.d p6,.d p7,.d (.s 8 (W.ds ws))] ws.length (.d (.v (.bool false))))) \/
    (ws.all W.bI=false/\r=(.ret,Tm [.d p1,.d p2,.d p3,.d p4,.d p5,.d p6,.d p7,.d (.s 8 (W.ds ws))]))):=by
 refine Ex.inv (S:=fun j:Nat=>Tk [.d p1,.d p2,.d p3,.d p4,.d p5,.d p6,.d p7,.d (.s 8 (W.ds ws))] j .u) (fun j=>ws.length-j) (fun j=>j<=ws.length/\ws.all W.bI=(ws.drop j).all W.bI) _ ?_ 0 ⟨by simp,by simp⟩;rintro j ⟨q1,q2⟩
 by_cases hj:j<ws.length
 ·have hm:ws[j]?=some (ws[j]'hj):=List.getElem?_eq_getElem hj;have d1:ws.drop j=ws[j]'hj::ws.drop (j+1):=List.drop_eq_getElem_cons hj;have hr:=P8 p1 p2 p3 p4 p5 p6 p7 ws j _ hl hm (hc _ (List.getElem_mem hj));rw[d1,List.all_cons]at q2;cases hv:W.bI (ws[j]'hj)
  ·rw[hv]at hr q2;exact .inr ⟨_,hr,by simp,.inr ⟨by simpa using q2,rfl⟩⟩
  ·rw[hv]at hr q2;exact .inl ⟨j+1,hr,by omega,by omega,by simpa using q2⟩
 ·have eP:j=ws.length:=by omega
  subst eP;have n1:(W.ds ws).length=ws.length:=by simp[W.fA]
  rw[List.drop_length]at q2;refine .inr ⟨_,Ex.of (n:=60) ?_,?_,.inl ⟨by rw[q2];rfl,rfl⟩⟩
  ·unfold Tk;generalize W.ds ws=l1,ws.length=m at*;simp -implicitDefEqProofs[Yq,f59,n1]
  ·simp
theorem Mf (s:Bool)(a b:List Nat)(c:Int)(i:Bool)(u:Int)(p:List Mo)(ps:List W)(hc:∀ w ∈ ps,Ca E0 59 [.d w.d] (.d (.v (.bool w.bI)),none)) :
  Ca E0 59 [.d (W.mk s a b c i u p ps).d] (.d (.v (.bool (W.bI (.mk s a b c i u p ps)))),none):=by
 rw[nK];have t:=fun n=>zw n s a b 3
 have n1:(p.map Mo.d).length=p.length:=by simp
 have n2:(W.ds ps).length=ps.length:=by simp[W.fA]
 have hA:Ex E0 f59.body.l (st0 [.d (W.mk s a b c i u p ps).d,.u,.u,.u,.u,.u,.u,.u,.u,.u] [])
   (.norm,(st0 [.u,.r (.loc 0) 0,.u,.u,.u,.u,.u,.u,.u,.u] [.box [.d (.v (.bool s)),.d (LD a),.d (LD b),.d (.v (.int .i64 c)),.d (.v (.bool i)),.d (.v (.int .u64 u)),.d (PD p),.d (.s 8 (W.ds ps))]])):=by
  refine Ex.of (n:=40) ?_;simp only[W.d,PD,LD];generalize LL a=x1;generalize LL b=x2;generalize List.map Mo.d p=x5;generalize W.ds ps=x7;simp -implicitDefEqProofs[f59]
 by_cases hh:((decide ((a.length:Int)<=3)&&decide ((b.length:Int)<=3))&&decide (p.length<=8)&&decide (ps.length<=4))=true
 ·rw[hh,Bool.true_and];simp only[Bool.and_eq_true,decide_eq_true_eq]at hh;obtain⟨⟨⟨h1,h2⟩,h3⟩,h4⟩:=hh;rw[decide_eq_true h1,decide_eq_true h2]at t;have g3:¬ (8:Int)<(p.length:Int):=by omega
  have g4:¬ (4:Int)<(ps.length:Int):=by omega
  have hB:Ex E0 f59.body.r.l (st0 [.u,.r (.loc 0) 0,.u,.u,.u,.u,.u,.u,.u,.u] [.box [.d (.v (.bool s)),.d (LD a),.d (LD b),.d (.v (.int .i64 c)),.d (.v (.bool i)),.d (.v (.int .u64 u)),.d (PD p),.d (.s 8 (W.ds ps))]])
    (.norm,(st0 [.u,.r (.loc 0) 0,.u,.u,.u,.d (.v (.bool false)),.u,.u,.u,.u] [.box [.d (.v (.bool s)),.d (LD a),.d (LD b),.d (.v (.int .i64 c)),.d (.v (.bool i)),.d (.v (.int .u64 u)),.d (PD p),.d (.s 8 (W.ds ps))]])):=by
   refine Ex.of (n:=120) ?_;clear hA hc;simp only[PD,LD,raw]at t ⊢;generalize LL a=x1 at t ⊢;generalize LL b=x2 at t ⊢;generalize List.map Mo.d p=x5 at n1 ⊢;generalize W.ds ps=x7 at n2 ⊢;simp -implicitDefEqProofs[f59,t,n1,n2,g3,g4]
  have hC:Ex E0 f59.body.r.r.l.l (st0 [.u,.r (.loc 0) 0,.u,.u,.u,.d (.v (.bool false)),.u,.u,.u,.u] [.box [.d (.v (.bool s)),.d (LD a),.d (LD b),.d (.v (.int .i64 c)),.d (.v (.bool i)),.d (.v (.int .u64 u)),.d (PD p),.d (.s 8 (W.ds ps))]])
    (.norm,P6 [.d (.v (.bool s)),.d (LD a),.d (LD b),.d (.v (.int .i64 c)),.d (.v (.bool i)),.d (.v (.int .u64 u)),.d (PD p),.d (.s 8 (W.ds ps))] 0 .u):=by
   refine Ex.of (n:=40) ?_;unfold P6;clear hA hB hc;generalize LD a=x1;generalize LD b=x2;generalize PD p=x5;generalize W.ds ps=x7;simp -implicitDefEqProofs[f59]
  obtain⟨r,hr,hq⟩:=UN (.v (.bool s)) (LD a) (LD b) (.v (.int .i64 c)) (.v (.bool i)) (.v (.int .u64 u)) (.s 8 (W.ds ps)) p (by omega);rcases hq with ⟨hp,rfl⟩|⟨hp,rfl⟩
  ·rw[hp,Bool.true_and];have hD:Ex E0 f59.body.r.r.r.l.l (P6 [.d (.v (.bool s)),.d (LD a),.d (LD b),.d (.v (.int .i64 c)),.d (.v (.bool i)),.d (.v (.int .u64 u)),.d (PD p),.d (.s 8 (W.ds ps))] p.length (.d (.v (.bool false))))
     (.norm,Tk [.d (.v (.bool s)),.d (LD a),.d (LD b),.d (.v (.int .i64 c)),.d (.v (.bool i)),.d (.v (.int .u64 u)),.d (PD p),.d (.s 8 (W.ds ps))] 0 .u):=by
    refine Ex.of (n:=40) ?_;unfold P6 Tk;clear hA hB hC hc hr;generalize LD a=x1;generalize LD b=x2;generalize PD p=x5;generalize W.ds ps=x7;simp -implicitDefEqProofs[f59]
   obtain⟨r2,hr2,hq2⟩:=UO (.v (.bool s)) (LD a) (LD b) (.v (.int .i64 c)) (.v (.bool i)) (.v (.int .u64 u)) (PD p) ps (by omega) hc;rcases hq2 with ⟨hw,rfl⟩|⟨hw,rfl⟩
   ·rw[hw];refine Ca.body (o:=.ret) (st1:=(st0 [.u,.u,.d (.v (.bool true)),.u,.u,.u,.u,.u,.u,.u] [.box [.d (.v (.bool s)),.d (LD a),.d (LD b),.d (.v (.int .i64 c)),.d (.v (.bool i)),.d (.v (.int .u64 u)),.d (PD p),.d (.s 8 (W.ds ps))]])) rfl (k59:E0.fn _=_) rfl ?_ (by intro id h;cases h) ?_
    ·show Ex E0 (.seq f59.body.l (.seq f59.body.r.l (.seq (.seq f59.body.r.r.l.l (.block 0 (.loop WM))) (.seq (.seq f59.body.r.r.r.l.l (.block 2 (.loop Yq))) f59.body.r.r.r.r)))) _ _;refine hA.seq (hB.seq ((hC.seq hr.block).seq ((hD.seq hr2.block).seq (Ex.of (n:=40) ?_))));unfold Tk;clear hA hB hC hD hr hr2 hc;generalize LD a=x1;generalize LD b=x2;generalize PD p=x5;generalize W.ds ps=x7;simp -implicitDefEqProofs[f59]
    ·simp -implicitDefEqProofs[f59]
   ·rw[hw];refine Ca.body (o:=.ret) (st1:=Tm [.d (.v (.bool s)),.d (LD a),.d (LD b),.d (.v (.int .i64 c)),.d (.v (.bool i)),.d (.v (.int .u64 u)),.d (PD p),.d (.s 8 (W.ds ps))]) rfl (k59:E0.fn _=_) rfl ?_ (by intro id h;cases h) ?_
    ·show Ex E0 (.seq f59.body.l (.seq f59.body.r.l (.seq (.seq f59.body.r.r.l.l (.block 0 (.loop WM))) (.seq (.seq f59.body.r.r.r.l.l (.block 2 (.loop Yq))) f59.body.r.r.r.r)))) _ _;exact hA.seq (hB.seq ((hC.seq hr.block).seq (hD.seq hr2.bf).bD))
    ·simp -implicitDefEqProofs[f59,Tm]
  ·rw[hp,Bool.false_and];refine Ca.body (o:=.ret) (st1:=Tm [.d (.v (.bool s)),.d (LD a),.d (LD b),.d (.v (.int .i64 c)),.d (.v (.bool i)),.d (.v (.int .u64 u)),.d (PD p),.d (.s 8 (W.ds ps))]) rfl (k59:E0.fn _=_) rfl ?_ (by intro id h;cases h) ?_
   ·show Ex E0 (.seq f59.body.l (.seq f59.body.r.l (.seq (.seq f59.body.r.r.l.l (.block 0 (.loop WM))) f59.body.r.r.r))) _ _;exact hA.seq (hB.seq (hC.seq hr.bf).bD)
   ·simp -implicitDefEqProofs[f59,Tm]
 ·simp only[Bool.not_eq_true]at hh;rw[hh,Bool.false_and,Bool.false_and];have hg:((decide ((a.length:Int)<=3)&&decide ((b.length:Int)<=3))=false)\/((decide ((a.length:Int)<=3)&&decide ((b.length:Int)<=3))=true/\(8:Int)<(p.length:Int))\/((decide ((a.length:Int)<=3)&&decide ((b.length:Int)<=3))=true/\¬ (8:Int)<(p.length:Int)/\(4:Int)<(ps.length:Int)):=by
   cases hq:(decide ((a.length:Int)<=3)&&decide ((b.length:Int)<=3))
   ·exact .inl rfl
   ·rw[hq,Bool.true_and]at hh
    by_cases h3:p.length<=8
    ·rw[decide_eq_true h3,Bool.true_and,decide_eq_false_iff_not]at hh;exact .inr (.inr ⟨rfl,by omega,by omega⟩)
    ·exact .inr (.inl ⟨rfl,by omega⟩)
  clear hA hc hh;refine Ca.bO (n:=150) ?_;rw[aA rfl (k59:E0.fn _=_) rfl];generalize (decide ((a.length:Int)<=3)&&decide ((b.length:Int)<=3))=q at*;simp only[W.d,PD,LD,raw]at*;generalize LL a=x1,LL b=x2,List.map Mo.d p=x5,W.ds ps=x7 at*;rcases hg with rfl|⟨rfl,h3⟩|⟨rfl,h3,h4⟩
  ·simp -implicitDefEqProofs[f59,t]
  ·simp -implicitDefEqProofs[f59,t,n1,h3]
  ·simp -implicitDefEqProofs[f59,t,n1,n2,h3,h4]
theorem zO:∀ w:W,Ca E0 59 [.d w.d] (.d (.v (.bool w.bI)),none)
 | .mk s a b c i u p ps=>Mf s a b c i u p ps (fun w hw=>zO w)
termination_by w=>sizeOf w
decreasing_by
 have:=List.sizeOf_lt_of_mem hw;simp;omega
theorem BD (n:Nat)(k:Int)(ps:List Int):CL E0 (n+40) 30 [.d (bG k ps)] []=some (.d (.v (.bool (decide ((ps.length:Int)<=6)))),none):=by
 have n1:(LK .i64 ps).length=ps.length:=by simp[LK]
 rw[aA rfl (k30:E0.fn _=_) rfl];unfold bG;generalize LK .i64 ps=l1 at*;simp -implicitDefEqProofs[f30,n1]
theorem uE:∀ w:W,w.nJ->w.bI=true->w.OK
 | .mk s a b c i u p ps,ht,hl=>by
  rw[nK]at hl;simp only[Bool.and_eq_true,decide_eq_true_eq]at hl;obtain⟨⟨⟨⟨⟨h1,h2⟩,h3⟩,h4⟩,h5⟩,h6⟩:=hl;cases ht with
  | mk ha hb hp _ hw =>
   refine .mk ha hb (by omega) (by omega) ⟨fun m hm => ?_,by omega⟩ (by omega) (fun w hm=>uE w (hw w hm) (List.all_eq_true.1 h6 w hm));have:=List.all_eq_true.1 h5 m hm;simp only[Mo.bI,Bool.and_eq_true,decide_eq_true_eq]at this;exact⟨(hp m hm).1,(hp m hm).2,by omega,by omega⟩
termination_by w=>sizeOf w
decreasing_by
 have:=List.sizeOf_lt_of_mem hm;simp;omega
end Fi.S
