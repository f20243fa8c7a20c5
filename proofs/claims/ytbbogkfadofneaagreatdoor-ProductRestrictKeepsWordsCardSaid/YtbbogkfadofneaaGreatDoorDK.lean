import Derived.Test.YtbbogkfadofneaaGreatDoorDH
import Derived.Test.YtbbogkfadofneaaGreatDoorCAwake16
set_option linter.unusedVariables false
set_option linter.unusedSimpArgs false
noncomputable section
namespace Fi.S
open Go Fi
set_option maxHeartbeats 8000000
set_option maxRecDepth 10000
section
variable {α:Type} {P:α->Prop} {pl tm:α->α->α} {z o:α} {dP:α->Bool}
theorem MX {q:Ar α->Bool}{s:Int}{v:List α}{n:Nat}{l:List (Ar α)}(h:∀ a ∈ l,a.l=s->q a=true):dC pl tm z n (l.filter q) s v=dC pl tm z n l s v:=by
 have:∀ (l:List (Ar α)) (out:List α),(∀ a ∈ l,a.l=s->q a=true)->(l.filter q).foldl (kz pl tm z s v) out=l.foldl (kz pl tm z s v) out:=by
  intro l
  induction l with
  | nil=>intro out _;rfl
  | cons a l ih =>
   intro out h;have h':∀ b ∈ l,b.l=s->q b=true:=fun b hb=>h b (Qf1 _ hb)
   cases hq:q a with
   | true=>rw[Xb2 hq,Qj2,Qj2,ih _ h']
   | false =>
    have hn:a.l≠s:=fun e=>by
     rw[h a aA e]at hq;cases hq
    have hs:kz pl tm z s v out a=out:=by unfold kz;rw[if_neg hn]
    rw[Xb1 (by simp[hq]),Qj2,hs,ih _ h']
 exact this l _ h
theorem MZ {s:Int}{v:List α}{n:Nat}{l:List (Ar α)}(h:∀ a ∈ l,a.l≠s):dC pl tm z n l s v=List.replicate n z:=by
 have:∀ (l:List (Ar α)) (out:List α),(∀ a ∈ l,a.l≠s)->l.foldl (kz pl tm z s v) out=out:=by
  intro l
  induction l with
  | nil=>intro out _;rfl
  | cons a l ih =>
   intro out h;have hs:kz pl tm z s v out a=out:=by unfold kz;rw[if_neg (h a aA)]
   rw[Qj2,hs];exact ih _ fun b hb=>h b (Qf1 _ hb)
 exact this l _ h
theorem J6 (n i:Nat):(List.replicate n z).getD i z=z:=by
 rw[Qk2,Q42];split<;>rfl
theorem Z4 (n i:Nat):(List.replicate n z).set i z=List.replicate n z:=by
 refine Xj2 fun k => ?_
 by_cases h:i=k
 ·subst h
  by_cases hi:i<n
  ·rw[Qf0 (by simpa using hi),Q42,if_pos hi]
  ·rw[Qn2 (by simp;omega),Qn2 (by simp;omega)]
 ·rw[Qd0 h]
theorem J7 (A:Fw P pl tm z o)(n:Nat){l:List (Ar α)}(hl:PA P l)(s:Int):dC pl tm z n l s (List.replicate n z)=List.replicate n z:=by
 have:∀ (l:List (Ar α)),PA P l->l.foldl (kz pl tm z s (List.replicate n z)) (List.replicate n z)=List.replicate n z:=by
  intro l
  induction l with
  | nil=>intro _;rfl
  | cons a l ih =>
   intro h;have hs:kz pl tm z s (List.replicate n z) (List.replicate n z) a=List.replicate n z:=by
    unfold kz;split
    ·rw[J6,J6,A.zt (h a aA),A.zero A.pz,Z4]
    ·rfl
   rw[Qj2,hs];exact ih fun b hb=>h b (Qf1 _ hb)
 exact this l hl
theorem FD (A:Fw P pl tm z o)(n:Nat){l:List (Ar α)}(hl:PA P l):∀ w:List Int,iZ (dC pl tm z n l) (List.replicate n z) w=List.replicate n z
 | []=>rfl
 | s::w=>by
  show iZ (dC pl tm z n l) (dC pl tm z n l s (List.replicate n z)) w=_;rw[J7 A n hl,FD A n hl w]
theorem QY (A:Fw P pl tm z o):∀ (n:Nat) {w:List α},(∀ x ∈ w,P x)->uq pl tm z (List.replicate n z) w=z:=by
 have:∀ (n:Nat) (w:List α),(∀ x ∈ w,P x)->((List.replicate n z).zip w).foldl (fun acc p=>pl acc (tm p.1 p.2)) z=z:=by
  intro n
  induction n with
  | zero=>intro w _;simp
  | succ n ih =>
   intro w h;cases w with
   | nil=>simp
   | cons x w =>
    rw[Xg0,X40,Qj2,A.zt (h x aA),A.zero A.pz];exact ih w fun y hy=>h y (Qf1 _ hy)
 exact fun n {w} h=>this n w h
theorem J8 (A:Fw P pl tm z o){n:Nat}{l:List (Ar α)}(hl:PA P l){ch:Int->Bool}(hq:∀ a ∈ l,ch a.l=true):∀ (w:List Int) (v:List α),w.all ch=false->iZ (dC pl tm z n l) v w=List.replicate n z
 | [],v,h=>by simp at h
 | s::w,v,h=>by
  show iZ (dC pl tm z n l) (dC pl tm z n l s v) w=_;cases hs:ch s with
  | false=>rw[MZ (fun a ha e=>by rw[<-e,hq a ha]at hs;cases hs),FD A n hl]
  | true =>
   rw[X42,hs,Qr2]at h;exact J8 A hl hq w _ h
theorem FE {n:Nat}{l:List (Ar α)}{q:Ar α->Bool}{ch:Int->Bool}(hq:∀ a ∈ l,q a=ch a.l):∀ (w:List Int) (v:List α),w.all ch=true->iZ (dC pl tm z n (l.filter q)) v w=iZ (dC pl tm z n l) v w
 | [],v,_=>rfl
 | s::w,v,h=>by
  rw[X42,Qb1]at h;show iZ (dC pl tm z n (l.filter q)) (dC pl tm z n (l.filter q) s v) w=iZ (dC pl tm z n l) (dC pl tm z n l s v) w;rw[MX (fun a ha e=>by rw[hq a ha,e];exact h.1),FE hq w _ h.2]
theorem M0 (A:Fw P pl tm z o)(hz:∀ x,P x->dP x=true->x=z){n:Nat}{l:List (Ar α)}(hl:PA P l)(ht:∀ a ∈ l,a.t.toNat<n){q:Ar α->Bool}{ch:Int->Bool}(hq:∀ a ∈ iU pl dP l,q a=ch a.l){bJ fin:List α}(hi:∀ x ∈ bJ,P x)(hf:∀ x ∈ fin,P x)(w:List Int) :
  uq pl tm z (iZ (dC pl tm z n ((iU pl dP l).filter q)) bJ w) fin=if w.all ch then uq pl tm z (iZ (dC pl tm z n l) bJ w) fin else z:=by
 have hn:PA P (iU pl dP l):=fun a ha=>yP A hl a (Qz1.1 ha).1
 cases h:w.all ch with
 | true=>rw[if_pos rfl,FE hq w bJ h,FB A hz hl ht w hi]
 | false =>
  rw[if_neg aA,J8 A (fun a ha=>hn a (Qz1.1 ha).1) (fun a ha=>by
   obtain⟨h1,h2⟩:=Qz1.1 ha;rw[<-hq a h1];exact h2) w bJ h,QY A n hf]
end
end Fi.S
noncomputable section
namespace Fi.S
open Go Fi
set_option maxHeartbeats 8000000
set_option maxRecDepth 10000
variable {α:Type} {e:α->W}
def mX (st:Int):Nat:=(1+ai .i64 (st-1) % 3).toNat
theorem J9 (st:Int):(mX st:Int)=1+ai .i64 (st-1) % 3:=by
 unfold mX;have h1:=Qo1 (ai .i64 (st-1)) (show(3:Int)≠0 by omega);omega
theorem OP (st:Int):0<mX st/\mX st<=4:=by
 have h:=J9 st;have h1:=Qo1 (ai .i64 (st-1)) (show(3:Int)≠0 by omega);have h2:=Ql2 (ai .i64 (st-1)) (show(0:Int)<3 by omega);omega
theorem Wu {kk:Int}{ps:List Int}(hv:aK kk ps=true)(st:Int)(li lf la:List Int)(sy:Int)(hsy:1<=sy/\sy<=32)(hi:∀ x ∈ li,gy x)(hf:∀ x ∈ lf,gy x)(ha:∀ x ∈ la,gy x) :
  Ca E1 1028 [.d (moD st li lf la),.d (aT kk ps),dI sy,dI 3]
   (.d (Fp kk ps sy (mX st) ((Ad kk ps li 0 (mX st)).map (cO kk)) ((Ad kk ps lf (mX st-1) (mX st)).map (cO kk)) (cO kk) (xx kk ps sy (mX st) la)),none):=by
 obtain⟨hn0,hn4⟩:=OP st;have hni:=J9 st;have cm:=Ca.ib (jr (ai .i64 (st-1)) 3 (Ve _) ae ae);have hw:ai .i64 (1+ai .i64 (st-1) % 3)=1+ai .i64 (st-1) % 3:=wrap_i64 ae;generalize hmm:ai .i64 (st-1) % 3=mm at*;generalize mX st=n at*;have e1:((Ad kk ps li 0 n).map (cO kk)).map W.d=(List.range n).map fun i=>(cO kk (yS kk ps li i 0)).d:=by simp[Ad]
 have e2:((Ad kk ps lf (n-1) n).map (cO kk)).map W.d=(List.range n).map fun i=>(cO kk (yS kk ps lf i (n-1))).d:=by simp[Ad]
 unfold Fp;rw[e1,e2]
 -- the ends
 obtain⟨r1,hl1,hr1⟩:=Ex.fold (E:=E1) (b:=mL1) (List.range n) (fun(u:Unit) _=>u) () (fun j _ s=>s=QR sy n (mH (eu st li lf la) (fH kk ps) kk ps sy n ((List.range j).map fun i=>(cO kk (yS kk ps li i 0)).d) ((List.range j).map fun i=>(cO kk (yS kk ps lf i (n-1))).d)) j .u)
  (fun _ q=>q=(.exit 0,QR sy n (mH (eu st li lf la) (fH kk ps) kk ps sy n ((List.range n).map fun i=>(cO kk (yS kk ps li i 0)).d) ((List.range n).map fun i=>(cO kk (yS kk ps lf i (n-1))).d)) n (dB false)))
  (fun j a s hj hs=>by
   have hjn:j<n:=by simpa using(bq hj)
   subst hs;refine⟨_,?_,rfl⟩;rw[List.range_succ,Qp2,Qp2];have c2:=V5 hv lf hf j (n-1);rw[show(((n-1:Nat)):Int)=(n:Int)-1 by omega]at c2;exact V7 st li lf la kk ps sy n j hjn hn4 _ _ aA aA _ _ (V5 hv li hi j 0) c2)
  (fun s hs=>by
   subst hs;simp only[List.length_range];exact⟨_,ZQ st li lf la kk ps sy n hn0 _ _ aA,aA,rfl⟩)
  (st:=QR sy n (mH (eu st li lf la) (fH kk ps) kk ps sy n [] []) 0 .u) rfl
 subst hr1;generalize hIs:((List.range n).map fun i=>(cO kk (yS kk ps li i 0)).d)=is at*;generalize hFs:((List.range n).map fun i=>(cO kk (yS kk ps lf i (n-1))).d)=fs at*;have hil:is.length=n:=by rw[<-hIs];simp
 have hfl:fs.length=n:=by rw[<-hFs];simp
 clear hIs hFs e1 e2
 -- the aI
 obtain⟨r2,hl2,hr2⟩:=Ex.fold (E:=E1) (b:=mL2) (List.range (Dh la)) (fun(u:Unit) _=>u) () (fun j _ s=>s=QS sy n (mA (eu st li lf la) (fH kk ps) kk ps sy n is fs (((List.range j).map (agf kk ps sy n la)).map (Ar.d (cO kk)))) j .u)
  (fun _ q=>q=(.exit 2,QS sy n (mA (eu st li lf la) (fH kk ps) kk ps sy n is fs ((xx kk ps sy n la).map (Ar.d (cO kk)))) (Dh la) (dB false)))
  (fun j a s hj hs=>by
   have hjn:j<Dh la:=by simpa using(bq hj)
   have ai9:=hjn;unfold Dh at ai9;subst hs;refine⟨_,?_,rfl⟩;rw[List.range_succ,Qp2,Qp2];have g:∀ k,k<4->la[4*j+k]?=some (la.getD (4*j+k) 0):=fun k hk=>by
    rw[Qk2,Qa1 ae];rfl
   have gr:∀ k,k<4->gy (la.getD (4*j+k) 0):=fun k hk=>ha _ (Qa2 (g k hk))
   exact V8 (e:=cO kk) st li lf la kk ps sy n j ⟨hn0,hn4⟩ hsy is fs _ aA ae _ _ _ _ (g 0 ae) (g 1 ae) (g 2 ae) (g 3 ae) _
    (Ca.ib (jr _ n (gr 0 ae) ae ae)) (Ca.ib (jr _ sy (gr 1 ae) ae ae)) (Ca.ib (jr _ n (gr 2 ae) ae ae)) (Jz hv _ (gr 3 ae)))
  (fun s hs=>by
   subst hs;simp only[List.length_range];exact⟨_,ZR st li lf la kk ps sy n (Dh la) is fs _ (by unfold Dh;omega) (by unfold Dh;omega),aA,rfl⟩)
  (st:=QS sy n (mA (eu st li lf la) (fH kk ps) kk ps sy n is fs []) 0 .u) rfl
 subst hr2;have hal:((xx kk ps sy n la).map (Ar.d (cO kk))).length=Dh la:=by simp[xx]
 generalize (xx kk ps sy n la).map (Ar.d (cO kk))=as' at*;obtain⟨N,t⟩:=cm.get;have hA:Ex E1 f1028.body.l (st0 (.d (moD st li lf la)::.d (aT kk ps)::dI sy::dI 3::KQ) [])
   (.norm,(st0 (.u::.u::dI sy::dI 3::rL 0::rL 1::rL 2::zZ) [eu st li lf la,fH kk ps,vU])):=by
  apply e6;unfold moD eu aT fH vU;generalize LK .i64 ps=l9,LK .i64 li=l8,LK .i64 lf=l7,LK .i64 la=l6 at*;simp[f1028]
 have hB := nx hA f1028.body.r.l (st0 (.u::.u::dI sy::.u::rL 0::rL 1::rL 2::dI n::sO) [eu st li lf la,fH kk ps,vU]) (by
  refine Ex.of (n:=N+60) ?_;rw[hni];unfold eu fH vU;generalize LK .i64 ps=l9,LK .i64 li=l8,LK .i64 lf=l7,LK .i64 la=l6 at*;simp[f1028,t,hw])
 have hC := nx hB f1028.body.r.r.l (st0 (.u::.u::dI sy::.u::rL 0::rL 1::rL 2::dI n::rL 3::qO) [eu st li lf la,fH kk ps,vU,OI kk ps sy n (.d (.n 8)) (.d (.n 8)) (.d (.n 11))]) (by
  refine Ex.of (n:=100) ?_;unfold eu fH vU OI;generalize LK .i64 ps=l9,LK .i64 li=l8,LK .i64 lf=l7,LK .i64 la=l6 at*;simp[f1028])
 have hD := nx hC f1028.body.r.r.r.l.l (QR sy n (mH (eu st li lf la) (fH kk ps) kk ps sy n [] []) 0 .u) (by
  apply e6;unfold QR mH;simp[f1028])
 have hE:Ex E1 f1028.body.r.r.r.r.l.l (QR sy n (mH (eu st li lf la) (fH kk ps) kk ps sy n is fs) n (dB false))
   (.norm,QS sy n (mA (eu st li lf la) (fH kk ps) kk ps sy n is fs []) 0 .u):=by
  apply e6;unfold QR QS mH mA;rw[hil,if_neg ae,if_pos (show([]:List D).length=0 from rfl)];simp[f1028]
 refine Ca.body (o:=.ret) (st1:=(st0 (.u::.u::.u::.u::.u::.u::rL 2::zZ) ((mA (eu st li lf la) (fH kk ps) kk ps sy n is fs as').set 2 (OI kk ps sy n (.ls (.loc 4) (n-1) 8 0 n) (.ls (.loc 5) (n-1) 8 0 n) (if as'.length=0 then .d (.n 11) else .ls (.loc 6) (as'.length-1) 11 0 as'.length))))) rfl (aM 1028 f1028:E1.fn _=_) rfl ?_ (by intro id h;cases h) ?_
 ·have hF : Ex E1 f1028.body.r.r.r.r.r (QS sy n (mA (eu st li lf la) (fH kk ps) kk ps sy n is fs as') (Dh la) (dB false))
       (.ret, (st0 (.u::.u::.u::.u::.u::.u::rL 2::zZ) ((mA (eu st li lf la) (fH kk ps) kk ps sy n is fs as').set 2 (OI kk ps sy n (.ls (.loc 4) (n - 1) 8 0 n) (.ls (.loc 5) (n - 1) 8 0 n) (if as'.length = 0 then .d (.n 11) else .ls (.loc 6) (as'.length - 1) 11 0 as'.length))))) := by
   refine Ex.of (n:=100) ?_;unfold QS mA eu fH vU OI;generalize LK .i64 ps=l9,LK .i64 li=l8,LK .i64 lf=l7,LK .i64 la=l6 at*
   by_cases h:as'.length=0
   ·rw[if_pos h,if_pos h];simp[f1028]
   ·rw[if_neg h,if_neg h];simp[f1028]
  show Ex E1 (.seq f1028.body.l (.seq f1028.body.r.l (.seq f1028.body.r.r.l (.seq (.seq f1028.body.r.r.r.l.l (.block 0 (.loop mL1))) (.seq (.seq f1028.body.r.r.r.r.l.l (.block 2 (.loop mL2))) f1028.body.r.r.r.r.r))))) _ _;exact hA.seq (hB.seq (hC.seq ((hD.seq hl1.block).seq ((hE.seq hl2.block).seq hF))))
 ·have v1:ah.view (n-1) 8 0 n (.row (n-1) 8 is)=some is:=by rw[<-hil];simp[ah.view]
  have v2:ah.view (n-1) 8 0 n (.row (n-1) 8 fs)=some fs:=by rw[<-hfl];simp[ah.view]
  have v3:ah.view (as'.length-1) 11 0 as'.length (.row (as'.length-1) 11 as')=some as':=by simp[ah.view]
  unfold mA eu fH vU OI mG
  by_cases h:as'.length=0
  ·have h':as'=[]:=Xf2.1 h;subst h';simp[f1028,v1,v2]
  ·rw[if_neg h,if_neg h];simp[f1028,v1,v2,v3]
end Fi.S
noncomputable section
namespace Fi.S
open Go Fi
set_option maxHeartbeats 8000000
set_option maxRecDepth 10000
variable {α:Type} {e:α->W}
def Dm (q x:Int):Bool:=(x==1&&(q==1||q==3))||(x==2&&(q==2||q==3))
theorem ai_:jH .u32 0 1=0/\jH .u32 1 1=1/\jH .u32 2 1=0/\jH .u32 3 1=1:=by
 simp only[sW];exact⟨rfl,rfl,rfl,rfl⟩
theorem an8:jH .u8 0 1=0/\jH .u8 1 1=1/\jH .u8 2 1=0/\jH .u8 3 1=1:=by
 simp only[sW];exact⟨rfl,rfl,rfl,rfl⟩
def rsL:aF:=f1605.body.r.r.r.r.l.r.bl.lp
def OQ (es:List D)(q:Int)(px:FV)(j:Nat)(t:FV)(L:List ah):St :=
 (st0 [.u,.d (.v (.int .u32 q)),.u,rL 1,.u,rL 2,.u,px,.u,.u,.d (.s 11 es),dI es.length,dI j,t,.u] L)
def Z5 (px:FV)(T:List ah)(aq:List D):Prop:=(px=.d (.n 11)/\aq=[])\/∃ i ak,px=.ls (.loc (i+3)) ak 11 0 aq.length/\T[i]?=some (.row ak 11 aq)
theorem Wv (q:Int)(hq:q=0\/q=1\/q=2\/q=3)(aI:List (Ar α))(hn:aI.length<=1000000)(A B C:ah)(T:List ah)(px:FV)(aq:List D)(hlen:aq.length<=1000000)(ho:Z5 px T aq)(j:Nat)(a:Ar α)(ha:aI[j]?=some a)(hl:a.l=1\/a.l=2) :
  ∃ tN T',Ex E1 rsL (OQ (aI.map (Ar.d e)) q px j .u (A::B::C::T)) (.norm,OQ (aI.map (Ar.d e)) q tN (j+1) .u (A::B::C::T'))/\Z5 tN T' (if Dm q a.l then aq++[a.d e] else aq):=by
 have hj:j<aI.length:=(bq ha)
 have hj0:(0:Int)<=(j:Int):=ae;have aR:ai .i64 ((j:Int)+1)=(j:Int)+1:=wrap_i64 ae;have hk1:((j+1:Nat):Int)=(j:Int)+1:=ae;have e1:(aI.map (Ar.d e))[j]?=some (a.d e):=by simp[ha]
 have m3:(aq.length+1)*152<=most:=by unfold most;omega
 have m4:aq.length+1<=most:=by unfold most;omega
 have w0:ai .i64 0=0:=wrap_i64 ae;have w1:ai .i64 1=1:=wrap_i64 ae;obtain⟨n0,n1,n2,n3⟩:=ai_;have sA:∀ b b':ah,(T++[b]).set T.length b'=T++[b']:=fun b b'=>by simp
 have hg:∀ b:ah,(T++[b])[T.length]?=some b:=fun b=>by simp
 obtain⟨s,l1,l3,c,b,u',q',ps',ew,ed⟩:=a.gD e;rw[ed]at e1 ⊢;unfold tX at*;clear ew ed;generalize a.f=fr,a.t=to,a.l=lb,aI.map (Ar.d e)=x3 at*;have i1:=idx e1;have jl:j<x3.length:=(bq e1)
 have hjl:(j:Int)<(x3.length:Int):=ae;cases hch:Dm q lb with
 | false =>
  rw[if_neg aA];refine⟨px,T++[.box [dI fr,dI lb,dI to,dB s,.d (.s 1 l1),.d (.s 1 l3),dI c,dB b,.d (.v (.int .u64 u')),.d (.s 6 q'),.d (.s 8 ps')]],Ex.of (n:=400) ?_,?_⟩
  ·unfold OQ;rw[hk1];clear ho;rcases hq with rfl|rfl|rfl|rfl<;>rcases hl with rfl|rfl<;>first
    | (exact absurd hch cK)
    | (clear hch;simp (maxSteps:=400000) [rsL,f1605,hj0,hjl,jl,aR,e1,i1,hg,sA,w0,w1,n0,n1,n2,n3,IntKind.bits])
  ·rcases ho with h|⟨i,ak,h6,h7⟩
   ·exact .inl h
   ·exact .inr ⟨i,ak,h6,by rw[Qa0 (bq h7)];exact h7⟩
 | true =>
  rw[if_pos rfl];rcases ho with ⟨rfl,rfl⟩|⟨i,ak,rfl,h7⟩
  ·refine⟨.ls (.loc (T.length+1+3)) 0 11 0 1,T++[.box [dI fr,dI lb,dI to,dB s,.d (.s 1 l1),.d (.s 1 l3),dI c,dB b,.d (.v (.int .u64 u')),.d (.s 6 q'),.d (.s 8 ps')],.row 0 11 [.a [vI fr,vI lb,vI to,vB s,.s 1 l1,.s 1 l3,vI c,vB b,.v (.int .u64 u'),.s 6 q',.s 8 ps']]],Ex.of (n:=400) ?_,.inr ⟨T.length+1,0,rfl,?_⟩⟩
   ·unfold OQ;rw[hk1];rcases hq with rfl|rfl|rfl|rfl<;>rcases hl with rfl|rfl<;>first
     | (exact absurd hch cK)
     | (clear hch;simp (maxSteps:=400000) [rsL,f1605,hj0,hjl,jl,aR,e1,i1,hg,sA,w0,w1,n0,n1,n2,n3,IntKind.bits,most])
   ·rw[Qc0 aA];simp
  ·have hil:i<T.length:=(bq h7)
   have gi:∀ X,(T++X)[i]?=some (.row ak 11 aq):=fun X=>by rw[Qa0 hil];exact h7
   have si:∀ X r,(T++X).set i r=T.set i r++X:=fun X r=>Q50 _ _ hil
   have tkr:aq.take aq.length=aq:=Qn0;have i8:=fun X=>idx (gi X)
   refine⟨.ls (.loc (i+3)) (ak+1) 11 0 (aq.length+1),T.set i (.row (ak+1) 11 (aq++[.a [vI fr,vI lb,vI to,vB s,.s 1 l1,.s 1 l3,vI c,vB b,.v (.int .u64 u'),.s 6 q',.s 8 ps']]))++[.box [dI fr,dI lb,dI to,dB s,.d (.s 1 l1),.d (.s 1 l3),dI c,dB b,.d (.v (.int .u64 u')),.d (.s 6 q'),.d (.s 8 ps')]],Ex.of (n:=400) ?_,.inr ⟨i,ak+1,aA,?_⟩⟩
   ·unfold OQ;rw[hk1];rcases hq with rfl|rfl|rfl|rfl<;>rcases hl with rfl|rfl<;>first
     | (exact absurd hch cK)
     | (clear hch;simp (maxSteps:=400000) [rsL,f1605,hj0,hjl,jl,aR,e1,i1,i8,hg,sA,gi,h7,si,hil,tkr,m3,m4,w0,w1,n0,n1,n2,n3,IntKind.bits])
   ·rw[Qa0 (by simpa using hil),Qf0 hil]
theorem J_ (q:Int):∀ (l:List (Ar α)) (p:List D),l.foldl (fun p a=>if Dm q a.l then p++[a.d e] else p) p=p++((l.filter fun a=>Dm q a.l).map (Ar.d e))
 | [],p=>by simp
 | a::l,p=>by
  rw[Qj2,J_ q l];cases h:Dm q a.l with
  | true=>rw[if_pos rfl,List.filter_cons,if_pos h,Qe2,Qp0];rfl
  | false=>rw[if_neg aA,List.filter_cons,if_neg (by simp[h])]
theorem Ka (kk:Int)(ps:List Int)(sy st:Int)(bJ fin:List D)(aI:List (Ar α))(h3:aI.length<=100000)(hl:∀ a ∈ aI,a.l=1\/a.l=2)(q:Int)(hq:q=0\/q=1\/q=2\/q=3)(A:D)(hA:∃ a b c d f g h,A=mG a b c d f g h)
  (hN:Ca E1 1024 [.d A] (.d (.t [mG kk ps sy st bJ fin (aI.map (Ar.d e)),vI 0]),none)) :
  Ca E1 1605 [.d A,.d (.v (.int .u32 q))] (.d (.t [mG kk ps sy st bJ fin ((aI.filter fun a=>Dm q a.l).map (Ar.d e)),vI 0]),none):=by
 obtain⟨N1,t1⟩:=hN.get;obtain⟨qa,qb,qc,qd,qf,qg,qh,rfl⟩:=hA;obtain⟨ab,hab⟩:∃ ab,ab=bO qa qb qc qd qf qg qh:=⟨_,rfl⟩
 obtain⟨nb,hnb⟩:∃ nb,nb=bO kk ps sy st bJ fin (aI.map (Ar.d e)):=⟨_,rfl⟩
 obtain⟨r,l1,px,T,hr1,ho⟩:=Ex.fold (E:=E1) (b:=rsL) aI (fun(p:List D) a=>if Dm q a.l then p++[a.d e] else p) []
  (fun j acc t=>acc.length<=j/\∃ px T,t=OQ (aI.map (Ar.d e)) q px j .u (ab::vU::nb::T)/\Z5 px T acc)
  (fun acc r=>∃ px T,r=(.exit 0,OQ (aI.map (Ar.d e)) q px aI.length (dB false) (ab::vU::nb::T))/\Z5 px T acc)
  (fun j a t ha ⟨g0,px,T,ht,g1⟩=>by
   subst ht;have hj:j<aI.length:=(bq ha)
   obtain⟨tN,T',k1,k2⟩:=Wv (e:=e) q hq aI ae ab vU nb T px _ ae g1 j a ha (hl a (Qa2 ha));refine⟨_,k1,?_,tN,T',rfl,k2⟩;split
   ·rw[Qb0,Xe1];omega
   ·omega)
  (fun t ⟨g0,px,T,ht,g1⟩=>by
   subst ht;have n3:(aI.map (Ar.d e)).length=aI.length:=aA;refine⟨_,Ex.of (n:=60) (r:=(.exit 0,OQ (aI.map (Ar.d e)) q px aI.length (dB false) (ab::vU::nb::T))) ?_,aA,px,T,rfl,g1⟩;unfold OQ;rw[<-n3];generalize aI.map (Ar.d e)=x3 at*;simp[rsL,f1605])
  (st:=OQ (aI.map (Ar.d e)) q (.d (.n 11)) 0 .u [ab,vU,nb]) ⟨Qd1 _,.d (.n 11),[],rfl,.inl ⟨rfl,rfl⟩⟩
 subst hr1;rw[J_,Qw0]at ho;generalize (aI.filter fun a=>Dm q a.l).map (Ar.d e)=rs at*;generalize aI.map (Ar.d e)=x3,aI.length=n at*;have sA:Ex E1 f1605.body.l (st0 (.d (mG qa qb qc qd qf qg qh)::.d (.v (.int .u32 q))::F5) [])
   (.norm,(st0 (.u::.d (.v (.int .u32 q))::rL 0::rL 1::KQ) [ab,vU])):=by
  apply e6;clear l1 t1;rw[hab];unfold mG bO vU;simp[f1605]
 have sB := nx sA f1605.body.r.l (st0 (.u::.d (.v (.int .u32 q))::.u::rL 1::.u::rL 2::dI 0::zZ) [ab,vU,nb]) (by
  refine Ex.of (n:=N1+100) ?_;clear l1 sA;rw[hab,hnb];unfold bO vU;unfold mG at*;generalize LK .i64 ps=l9 at*;simp[f1605,t1])
 have sC := nx sB f1605.body.r.r.l (st0 [.u,.d (.v (.int .u32 q)),.u,rL 1,.u,rL 2,dI 0,.u,.u,dB false,.u,.u,.u,.u,.u] [ab,vU,nb]) (by
  apply e6;clear l1 sA sB t1;simp[f1605])
 have sD := nx sC f1605.body.r.r.r.l (st0 (.u::.d (.v (.int .u32 q))::.u::rL 1::.u::rL 2::.u::.d (.n 11)::sO) [ab,vU,nb]) (by
  apply e6;clear l1 sA sB sC t1;simp[f1605])
 have sE := nx sD f1605.body.r.r.r.r.l.l (OQ x3 q (.d (.n 11)) 0 .u [ab,vU,nb]) (by
  apply e6;clear l1 sA sB sC sD t1;rw[hnb];unfold OQ bO;rw[show((0:Nat):Int)=0 from rfl];simp[f1605])
 have sF:∃ st',Ex E1 f1605.body.r.r.r.r.r (OQ x3 q px n (dB false) (ab::vU::nb::T)) (.ret,st')/\finish f1605 st'=some (.d (.t [mG kk ps sy st bJ fin rs,vI 0]),none):=by
  clear l1 sA sB sC sD sE t1;rw[hnb];unfold OQ bO vU mG;have r1:f1605.res=[.cell 3 true 7,.var 4]:=rfl;have r2:f1605.ref=false:=rfl;rcases ho with ⟨rfl,rfl⟩|⟨i,ak,rfl,h7⟩
  ·refine⟨_,Ex.of (n:=200) (by simp[f1605];rfl),?_⟩;simp[finish,r1,r2,uz]
  ·have il:i<T.length:=(bq h7)
   have i7:=idx h7;refine⟨_,Ex.of (n:=200) (by simp[f1605,h7,i7,il];rfl),?_⟩;simp[finish,r1,r2,h7,i7,il,ah.view,uz]
 obtain⟨st',e1,e2⟩:=sF;exact Ca.body (o:=.ret) rfl (aM 1605 f1605:E1.fn _=_) rfl (sA.seq (sB.seq (sC.seq (sD.seq (Ex.seq (sE.seq (Ex.block l1)) e1))))) aA e2
theorem QZ (kk:Int)(ps:List Int)(A:D)(hA:∃ a b c d f g h,A=mG a b c d f g h)(st:Int)(li lf la:List Int)(em:Bool)(h:Ca E1 1028 [.d (moD st li lf la),.d (aT kk ps),dI 2,dI 3] (.d A,none)) :
  Ca E1 1613 [.d (aT kk ps),.d (.a [vI st,.s 1 (LK .i64 li),.s 1 (LK .i64 lf),.s 1 (LK .i64 la),vB em])] (.d A,none):=by
 obtain⟨N,t⟩:=h.get;obtain⟨qa,qb,qc,qd,qf,qg,qh,rfl⟩:=hA;refine Ca.bP (n:=N+100) ?_;rw[av rfl (aM 1613 f1613:E1.fn _=_) rfl];clear h;unfold mG moD aT at*;simp[f1613,t]
end Fi.S
noncomputable section
namespace Fi.S
open Go Fi
set_option maxHeartbeats 8000000
set_option maxRecDepth 10000
def Q0 (x:W):ah:=.box (x.d.cells.map .d)
def rwL:aF:=f1601.body.r.r.r.r.r.r.l.r.bl.lp
def Q3 (w:List D)(sy:Int)(mb rb ab bb vb wb:ah)(j:Nat)(t:FV):St :=
 (st0 [.u,.u,.u,.d (.v (.int .u8 sy)),.u,.u,rL 1,.u,.d (.s 1 w),.u,dI 0,rL 4,dI 0,rL 5,dI j,t,.u] [mb,rb,ab,bb,vb,wb])
theorem Ww (kk:Int)(ps:List Int)(w:List Int)(hn:w.length<=1000)(sy q:Int)(hs:sy.tmod 4=q)(hq:q=0\/q=1\/q=2\/q=3)(mb ab bb vb:ah)(j:Nat)(x:Int)(hx:w[j]?=some x)(hx2:x=1\/x=2)(z v:W)(hz:Ca E1 35 [.d (aT kk ps)] (.d z.d,none)) :
  Ex E1 rwL (Q3 (LK .i64 w) sy mb (fH kk ps) ab bb vb (Q0 v) j .u) (.norm,Q3 (LK .i64 w) sy mb (fH kk ps) ab bb vb (Q0 (if Dm q x then v else z)) (j+1) .u):=by
 obtain⟨N,t⟩:=hz.get;have hj:j<w.length:=(bq hx)
 have hel:(LK .i64 w).length=w.length:=by simp[LK]
 have e1:(LK .i64 w)[j]?=some (vI x):=by simp[LK,hx]
 have hj0:(0:Int)<=(j:Int):=ae;have aR:ai .i64 ((j:Int)+1)=(j:Int)+1:=wrap_i64 ae;have hk1:((j+1:Nat):Int)=(j:Int)+1:=ae;have w0:ai .i64 0=0:=wrap_i64 ae;have w1:ai .i64 1=1:=wrap_i64 ae;have u0:ai .u64 0=0:=by rw[bS];rfl
 have u1:ai .u64 1=1:=by rw[bS];rfl
 obtain⟨n0,n1,n2,n3⟩:=an8;generalize LK .i64 w=xs at*;have i1:=idx e1;have jl:j<xs.length:=ae;have hjl:(j:Int)<(xs.length:Int):=ae;obtain⟨s,l2,l3,c,b,u,p,qs,ex⟩:=v.aN;obtain⟨s',l2',l3',c',b',u',p',qs',ez⟩:=z.aN;refine Ex.of (n:=N+300) ?_;cases hch:Dm q x with
 | true =>
  rw[if_pos rfl];unfold Q3 Q0;rw[hk1];clear t ex ez;rcases hq with rfl|rfl|rfl|rfl<;>rcases hx2 with rfl|rfl<;>first
   | (exact absurd hch cK)
   | (clear hch;simp (maxSteps:=400000) [rwL,f1601,hj0,jl,hjl,aR,e1,i1,hs,w0,w1,u0,u1,n0,n1,n2,n3,IntKind.bits])
 | false =>
  rw[if_neg aA];unfold Q3 Q0 fH;rw[hk1,ex,ez];rw[ez]at t;clear ex ez;unfold aT wD at*;rcases hq with rfl|rfl|rfl|rfl<;>rcases hx2 with rfl|rfl<;>first
   | (exact absurd hch cK)
   | (clear hch;simp (maxSteps:=400000) [rwL,f1601,t,hj0,jl,hjl,aR,e1,i1,hs,w0,w1,u0,u1,n0,n1,n2,n3,IntKind.bits])
theorem Z6 (kk:Int)(ps:List Int)(w:List Int)(hn:w.length<=1000)(hw:∀ x ∈ w,x=1\/x=2)(sy q:Int)(hs:sy.tmod 4=q)(hq:q=0\/q=1\/q=2\/q=3)(mb ab bb vb:ah)(z v:W)(hz:Ca E1 35 [.d (aT kk ps)] (.d z.d,none)) :
  Ex E1 (.loop rwL) (Q3 (LK .i64 w) sy mb (fH kk ps) ab bb vb (Q0 v) 0 .u) (.exit 0,Q3 (LK .i64 w) sy mb (fH kk ps) ab bb vb (Q0 (if w.all (Dm q) then v else z)) w.length (dB false)):=by
 obtain⟨r,h1,h2⟩:=Ex.inv (E:=E1) (b:=rwL) (fun j:Nat=>Q3 (LK .i64 w) sy mb (fH kk ps) ab bb vb (Q0 (if (w.take j).all (Dm q) then v else z)) j .u) (fun j=>w.length-j) (fun j=>j<=w.length)
  (fun r=>r=(.exit 0,Q3 (LK .i64 w) sy mb (fH kk ps) ab bb vb (Q0 (if w.all (Dm q) then v else z)) w.length (dB false))) (fun j hj=>by
  rcases Qg1 j w.length with g|g
  ·have ga:w[j]?=some w[j]:=Qa1 g;have k1:=Ww kk ps w hn sy q hs hq mb ab bb vb j w[j] ga (hw _ (Qi0 g)) z (if (w.take j).all (Dm q) then v else z) hz;refine .inl ⟨j+1,?_,ae,ae⟩;have e:(if (w.take (j+1)).all (Dm q) then v else z)=(if Dm q w[j] then(if (w.take j).all (Dm q) then v else z) else z):=by
    rw[Qj1 g,List.all_append];cases h1:(w.take j).all (Dm q)<;>cases h2:Dm q w[j]<;>simp[h2]
   rw[e];exact k1
  ·obtain rfl:j=w.length:=ae;have hel:(LK .i64 w).length=w.length:=by simp[LK]
   rw[Qn0];refine .inr ⟨_,Ex.of (n:=60) ?_,aA,rfl⟩;unfold Q3;simp[rwL,f1601,hel]) 0 (Qy1 _)
 subst h2;exact h1
theorem M3 (aw:Ca E1 1604 [] (dB true,none))(k:Int)(M:D)(hM:∃ st li lf la em,M=.a [vI st,.s 1 (LK .i64 li),.s 1 (LK .i64 lf),.s 1 (LK .i64 la),vB em])(word x:List Int)(hx:x.length<=1000)(hx2:∀ y ∈ x,y=1\/y=2)(kk:Int)(ps:List Int)(A B:D)(hA:∃ a b c d f g h,A=mG a b c d f g h)(hB:∃ a b c d f g h,B=mG a b c d f g h)
  (sy q:Int) (hs:sy.tmod 4=q) (hq:q=0\/q=1\/q=2\/q=3) (v w z:W) (hvw:v=if x.all (Dm q) then w else z)
  (h1:Ca E1 15 [dI k] (.d (aT kk ps),none)) (h2:Ca E1 1613 [.d (aT kk ps),.d M] (.d A,none))
  (h3:Ca E1 1018 [.d (.s 1 (LK .i64 word)),dI 2,dI 4] (.d (.s 1 (LK .i64 x)),none))
  (h4:Ca E1 1605 [.d A,.d (.v (.int .u32 q))] (.d (.t [B,vI 0]),none))
  (h5:Ca E1 1530 [.d B,.d (.s 1 (LK .i64 x))] (.d (.t [v.d,vI 0]),none)) (h6:Ca E1 1530 [.d A,.d (.s 1 (LK .i64 x))] (.d (.t [w.d,vI 0]),none))
  (h7:Ca E1 35 [.d (aT kk ps)] (.d z.d,none)) (h8:Ca E1 12 [.d v.d,.d v.d] (dB true,none)) :
  Ca E1 1601 [dI k,.d M,.d (.s 1 (LK .i64 word)),.d (.v (.int .u8 sy))] (dB true,none):=by
 have hL:=fun mb ab bb vb=>Z6 kk ps x hx hx2 sy q hs hq mb ab bb vb z w h7
 rw[<-hvw]at hL;obtain⟨K,hK,t0,t1,t2,t3,t4,t5,t6,t8⟩:=(aw.j (h1.j (h2.j (h3.j (h4.j (h5.j (h6.j h8.any))))))).at 0;have wq:ai .u32 q=q:=by
  rw[bS];rcases hq with rfl|rfl|rfl|rfl<;>rfl
 clear aw h1 h2 h3 h4 h5 h6 h7 h8 hK hvw;generalize x.length=c at*;obtain⟨st,li,lf,la,em,rfl⟩:=hM;obtain⟨qa,qb,qc,qd,qf,qg,qh,rfl⟩:=hA;obtain⟨ba,bb,bc,bd,bf,bg,bh,rfl⟩:=hB;obtain⟨mb,hmb⟩:∃ mb,mb=ah.box [dI st,.d (.s 1 (LK .i64 li)),.d (.s 1 (LK .i64 lf)),.d (.s 1 (LK .i64 la)),dB em]:=⟨_,rfl⟩
 obtain⟨ab,hab⟩:∃ ab,ab=bO qa qb qc qd qf qg qh:=⟨_,rfl⟩
 obtain⟨bx,hbx⟩:∃ bx,bx=bO ba bb bc bd bf bg bh:=⟨_,rfl⟩
 obtain⟨rb,hrb⟩:∃ rb,rb=fH kk ps:=⟨_,rfl⟩
 obtain⟨vb,hvb⟩:∃ vb,vb=Q0 v:=⟨_,rfl⟩
 obtain⟨wb,hwb⟩:∃ wb,wb=Q0 w:=⟨_,rfl⟩
 rw[<-hrb,<-hvb,<-hwb]at hL;have sA:Ex E1 f1601.body.l (st0 (dI k::.d (.a [vI st,.s 1 (LK .i64 li),.s 1 (LK .i64 lf),.s 1 (LK .i64 la),vB em])::.d (.s 1 (LK .i64 word))::.d (.v (.int .u8 sy))::F5) [])
   (.norm,(st0 (dI k::.u::.d (.s 1 (LK .i64 word))::.d (.v (.int .u8 sy))::rL 0::D5) [mb])):=by
  apply e6;clear t0 t1 t2 t3 t4 t5 t6 t8 hL;rw[hmb];simp[f1601]
 have sB := nx sA f1601.body.r.l (st0 (.u::.u::.d (.s 1 (LK .i64 word))::.d (.v (.int .u8 sy))::rL 0::.u::rL 1::qP) [mb,rb]) (by
  refine Ex.of (n:=K+100) ?_;clear t0 t2 t3 t4 t5 t6 t8 hL sA;rw[hrb];unfold fH;unfold aT at*;simp[f1601,t1])
 have sC := nx sB f1601.body.r.r.l (st0 (.u::.u::.u::.d (.v (.int .u8 sy))::.u::.u::rL 1::rL 2::.d (.s 1 (LK .i64 x))::zZ) [mb,rb,ab]) (by
  refine Ex.of (n:=K+100) ?_;clear t0 t1 t4 t5 t6 t8 hL sA sB;rw[hmb,hrb,hab];unfold fH bO;unfold aT mG at*;generalize LK .i64 x=x6,LK .i64 qb=x7 at*;simp (maxSteps:=400000) [f1601,t2,t3])
 have sD := nx sC f1601.body.r.r.r.l (st0 (.u::.u::.u::.d (.v (.int .u8 sy))::.u::.u::rL 1::rL 2::.d (.s 1 (LK .i64 x))::rL 3::dI 0::qO) [mb,rb,ab,bx]) (by
  refine Ex.of (n:=K+100) ?_;clear t0 t1 t2 t3 t5 t6 t8 hL sA sB sC;rw[hab,hbx];unfold bO;unfold mG at*;generalize LK .i64 x=x6,LK .i64 bb=x8 at*;simp (maxSteps:=400000) [f1601,t4,hs,wq])
 have sE := nx sD f1601.body.r.r.r.r.l (st0 [.u,.u,.u,.d (.v (.int .u8 sy)),.u,.u,rL 1,rL 2,.d (.s 1 (LK .i64 x)),.u,dI 0,rL 4,dI 0,.u,.u,.u,.u] [mb,rb,ab,bx,vb]) (by
  refine Ex.of (n:=K+100) ?_;clear t0 t1 t2 t3 t4 t6 t8 hL sA sB sC sD;rw[hbx,hvb];obtain⟨s,l2,l3,c1,b1,u1,p1,q1,ex⟩:=v.aN;unfold bO Q0;rw[ex]at t5 ⊢;clear ex;unfold mG wD at*;generalize LK .i64 x=x6,LK .i64 bb=x8 at*;simp (maxSteps:=400000) [f1601,t5])
 have sF := nx sE f1601.body.r.r.r.r.r.l (st0 [.u,.u,.u,.d (.v (.int .u8 sy)),.u,.u,rL 1,.u,.d (.s 1 (LK .i64 x)),.u,dI 0,rL 4,dI 0,rL 5,.u,.u,.u] [mb,rb,ab,bx,vb,wb]) (by
  refine Ex.of (n:=K+100) ?_;clear t0 t1 t2 t3 t4 t5 t8 hL sA sB sC sD sE;rw[hab,hwb];obtain⟨s,l2,l3,c1,b1,u1,p1,q1,ex⟩:=w.aN;unfold bO Q0;rw[ex]at t6 ⊢;clear ex;unfold mG wD at*;generalize LK .i64 x=x6 at*;simp (maxSteps:=400000) [f1601,t6])
 have sG := nx sF f1601.body.r.r.r.r.r.r.l.l (Q3 (LK .i64 x) sy mb rb ab bx vb wb 0 .u) (by
  apply e6;clear t0 t1 t2 t3 t4 t5 t6 t8 hL sA sB sC sD sE sF;unfold Q3;rw[show((0:Nat):Int)=0 from rfl];simp[f1601])
 have sH:∃ st',Ex E1 f1601.body.r.r.r.r.r.r.r (Q3 (LK .i64 x) sy mb rb ab bx vb vb c (dB false)) (.ret,st')/\finish f1601 st'=some (dB true,none):=by
  clear t1 t2 t3 t4 t5 t6 hL sA sB sC sD sE sF sG;rw[hvb];obtain⟨s,l2,l3,c1,b1,u1,p1,q1,ex⟩:=v.aN;unfold Q3 Q0;rw[ex]at t8 ⊢;clear ex;unfold wD at*;refine⟨_,Ex.of (n:=K+100) (by simp (maxSteps:=400000) [f1601,t0,t8];rfl),?_⟩;simp[finish,show f1601.res=[.var 5] from rfl,show f1601.ref=false from rfl]
 obtain⟨st',e1,e2⟩:=sH;exact Ca.body (o:=.ret) rfl (aM 1601 f1601:E1.fn _=_) rfl (sA.seq (sB.seq (sC.seq (sD.seq (sE.seq (sF.seq (Ex.seq (sG.seq (Ex.block (hL _ _ _ _))) e1))))))) aA e2
theorem Wx (k:Int)(em:Bool)(st:Int)(li lf la word:List Int)(sy:Int)(hk:gy k)(hli:∀ x ∈ li,gy x)(hlf:∀ x ∈ lf,gy x)(hla:∀ x ∈ la,gy x)(hw:∀ x ∈ word,gy x)(hs:0<=sy/\sy<256)(aw:Ca E1 1604 [] (dB true,none)) :
  Ca E1 1601 [dI k,.d (.a [vI st,.s 1 (LK .i64 li),.s 1 (LK .i64 lf),.s 1 (LK .i64 la),vB em]),.d (.s 1 (LK .i64 word)),.d (.v (.int .u8 sy))] (dB true,none):=by
 have hv:=Mx k;have c1:=Ca.ib (Y2 k hk);generalize rO k=kk,zB k=ps at*;obtain⟨hn0,hn4⟩:=OP st;have c2:=Wu hv st li lf la 2 ae hli hlf hla;have hm:=MU hv 2 ae (mX st) hn0 la;have hlen:=QT kk ps 2 (mX st) la;have l1:=JW kk ps li 0 (mX st);have l2:=JW kk ps lf (mX st-1) (mX st);have w1:∀ x ∈ Ad kk ps li 0 (mX st),Wt kk ps x:=fun x hx=>by
  obtain⟨i,_,rfl⟩:=Qi1.1 hx;exact V6 hv li i 0
 have w2:∀ x ∈ Ad kk ps lf (mX st-1) (mX st),Wt kk ps x:=fun x hx=>by
  obtain⟨i,_,rfl⟩:=Qi1.1 hx;exact V6 hv lf i _
 rw[show((2:Nat):Int)=2 from rfl]at hm;generalize Ad kk ps li 0 (mX st)=bJ,Ad kk ps lf (mX st-1) (mX st)=fin,xx kk ps 2 (mX st) la=l at*;generalize mX st=n at*;have M:Made kk ps 2 n bJ fin:=⟨ae,ae,l1,l2,w1,w2⟩
 have A:Fw (Ei (dW kk ps)) (bV (dW kk ps)) bQ (bW kk ps) (Fj kk ps):=MQ (aU hv);have hz:∀ x,Ei (dW kk ps) x->yH kk ps x=true->x=bW kk ps:=fun x hx h=>V9 hv hx h
 have hL:Wd kk ps 2 n l:=⟨hlen,fun a ha=>⟨(hm a ha).wt hv,(hm a ha).f,(hm a ha).l,(hm a ha).t⟩⟩
 have hP:PA (Ei (dW kk ps)) l:=fun a ha=>(hL.2 a ha).1.gd
 have ht:∀ a ∈ l,a.t.toNat<n:=fun a ha=>by have:=(hL.2 a ha).2.2.2;omega
 have hNw:=V_ hv (dP:=yH kk ps) hm hlen;have hNl:=Fs (pl:=bV (dW kk ps)) (dP:=yH kk ps) l 10 hlen;obtain⟨hs1,hs2⟩:sy.tmod 4=sy % 4/\(sy % 4=0\/sy % 4=1\/sy % 4=2\/sy % 4=3):=⟨Q61 hs.1,ae⟩
 generalize sy % 4=q at*;have hB:Wd kk ps 2 n ((iU (bV (dW kk ps)) (yH kk ps) l).filter fun a=>Dm q a.l):=⟨Qc2 (Xh1 ..) hNl,fun a ha=>hNw a (Qz1.1 ha).1⟩
 have c4:=Ka (e:=cO kk) kk ps (2:Nat) n ((bJ.map (cO kk)).map W.d) ((fin.map (cO kk)).map W.d) (iU (bV (dW kk ps)) (yH kk ps) l) ae (fun a ha=>by have:=(hNw a ha).2.2.1;omega) q hs2 _ ⟨_,_,_,_,_,_,_,rfl⟩ (JZ hv M hL);obtain⟨q1,qo⟩:=Dl hv M hL hn4 (nN 2 word) (yR 2 word) (G7 word);obtain⟨q2,qo2⟩:=Dl hv M hB hn4 (nN 2 word) (yR 2 word) (G7 word);have hr:=M0 (dP:=yH kk ps) A hz hP ht (q:=fun a=>Dm q a.l) (ch:=Dm q) (fun _ _=>rfl) (fun x hx=>(w1 x hx).gd) (fun x hx=>(w2 x hx).gd) (nN 2 word);rw[hr]at q2 qo2;refine M3 aw k _ ⟨_,_,_,_,_,rfl⟩ word (nN 2 word) (by have:=yR 2 word;omega) (fun y hy=>by have:=G7 word y hy;omega) kk ps _ _ ⟨_,_,_,_,_,_,_,rfl⟩ ⟨_,_,_,_,_,_,_,rfl⟩ sy q hs1 hs2 _ _ (cO kk (bW kk ps)) ?_ c1 (QZ kk ps _ ⟨_,_,_,_,_,_,_,rfl⟩ st li lf la em c2) (V4 2 ae word hw) c4 q2 q1 (AJ hv) (Zb hv ae qo2);split<;>rfl
end Fi.S
noncomputable section
namespace Fi.S
open Go Fi
set_option maxHeartbeats 8000000
set_option maxRecDepth 1000000
structure aaY (E' E:Env)(K:Nat)(F0:Nat->Option (List D->Option D)):Prop where
 fn:E'.fn=E.fn
 d9:E'.d9=E.d9
 aha:∀ g p,F0 g=some p->E'.iV g=some p
 iV:∀ g,F0 g=none->E'.iV g=E.iV g
 iH:∀ g q,E'.iH g=some q->E.iH g=some q
 has:∀ g p ds v,F0 g=some p->p ds=some v->∀ n,K<=n->cu E n g (ds.map .d) []=some (.d v,none)
section has
variable {E E':Env} {K:Nat} {F0:Nat->Option (List D->Option D)}
theorem aaH (h:aaY E' E K F0){n:Nat}(hr:∀ c st z,exec E' n c st=some z->exec E (n+K) c st=some z){g:Nat}{args:List FV}{B:List ah}{x:FV × Option (List ah)}(hx:cu E' n g args B=some x) :
  cu E (n+K) g args B=some x:=by
 cases hg:F0 g with
 | some p =>
  unfold cu enter at hx;rw[h.aha g p hg]at hx;simp only at hx;split at hx
  ·rename_i ds hds;split at hx
   ·rename_i v hv;cases hx;rw[KG hds];exact h.has g p ds v hg hv (n+K) ae
   ·cases hx
  ·cases hx
 | none =>
  unfold cu enter at hx ⊢;rw[h.iV g hg,h.fn]at hx;split at hx
  ·exact hx
  ·split at hx
   ·split at hx
    ·rename_i q hq;rw[h.iH g q hq];exact hx
    ·cases hx
   ·rename_i F hF;split at hx
    ·rename_i hl;rw[if_pos hl];generalize hi:({vars:=args++List.replicate (F.nv-F.np) FV.u,base:=B,loc:=[],aS:=false}:St)=s0 at hx ⊢;cases he:exec E' n F.body s0 with
     | none=>rw[he]at hx;cases hx
     | some z=>rw[hr _ _ _ he];rw[he]at hx;exact hx
    ·cases hx
theorem aaI (h:aaY E' E K F0):∀ (n:Nat) (c:aF) (st:St) (z:Out × St),exec E' n c st=some z->exec E (n+K) c st=some z
 | 0,_,_,_,h=>by cases h
 | n+1,c,st,z,hx=>by
  have ih:=aaI h n;have hc:Fi.Le (cu E' n) (cu E (n+K)):=fun g args B x hx=>aaH h ih hx
  rw[show n+1+K=(n+K)+1 by omega];cases c with
  | skip=>exact hx
  | ret=>exact hx
  | exit id=>exact hx
  | kill js=>exact hx
  | region ops outs apart =>
   rw[sM]at hx ⊢;split at hx
   ·rename_i ha;rw[if_pos ha];split at hx
    ·rename_i st' env hr;have h1:=vQ (r:=cu E' n) h.d9 (ops:=ops) (st:=st) (env:=[]);rw[h1]at hr;rw[lG hc hr];exact hx
    ·cases hx
   ·cases hx
  | seq a b =>
   rw[sK]at hx ⊢;cases ha:exec E' n a st with
   | none=>rw[ha]at hx;cases hx
   | some z1 =>
    rw[ih _ _ _ ha];rw[ha]at hx;obtain⟨o,st1⟩:=z1;cases o with
    | norm=>exact ih _ _ _ hx
    | exit id=>exact hx
    | ret=>exact hx
  | cond x a b =>
   rw[za]at hx ⊢;rw[nA h.d9]at hx;split at hx
   ·exact ih _ _ _ hx
   ·cases hx
  | block id b =>
   rw[kH]at hx ⊢;cases hb:exec E' n b st with
   | none=>rw[hb]at hx;cases hx
   | some z1=>rw[ih _ _ _ hb];rw[hb]at hx;exact hx
  | loop b =>
   rw[oV]at hx ⊢;cases hb:exec E' n b st with
   | none=>rw[hb]at hx;cases hx
   | some z1 =>
    rw[ih _ _ _ hb];rw[hb]at hx;obtain⟨o,st1⟩:=z1;cases o with
    | norm=>exact ih _ _ _ hx
    | exit id=>exact hx
    | ret=>exact hx
theorem aaU (h:aaY E' E K F0){n g:Nat}{args:List FV}{B:List ah}{x:FV × Option (List ah)}(hx:cu E' n g args B=some x):cu E (n+K) g args B=some x:=aaH h (aaI h n) hx
end has
def aaZ (T:List (List D × D))(ds:List D):Option D:=(T.find? fun e=>Fi.nE ds e.1).map (·.2)
def aaC (T U:List (List D × D))(g:Nat):Option (List D->Option D):=bif Nat.beq g 21 then some (aaZ T) else bif Nat.beq g 19 then some (aaZ U) else none
def acV (E:Env)(T U:List (List D × D)):Env:={E with iV:=fun g=>match aaC T U g with
 | some p=>some p
 | none=>E.iV g}
theorem aaW {E:Env}{K:Nat}{T U:List (List D × D)}(h1:∀ e ∈ T,∀ n,K<=n->cu E n 21 (e.1.map .d) []=some (.d e.2,none))(h2:∀ e ∈ U,∀ n,K<=n->cu E n 19 (e.1.map .d) []=some (.d e.2,none)):aaY (acV E T U) E K (aaC T U) where
 fn:=rfl
 d9:=rfl
 aha:=fun g p hp=>by
  show(match aaC T U g with|some p=>some p|none=>E.iV g)=some p;rw[hp]
 iV:=fun g hp=>by
  show(match aaC T U g with|some p=>some p|none=>E.iV g)=E.iV g;rw[hp]
 iH:=fun _ _ hq=>hq
 has:=fun g p ds v hp hv n hn=>by
  have find:∀ (V:List (List D × D)),aaZ V ds=some v->∃ e ∈ V,ds=e.1/\v=e.2:=fun V hV=>by
   obtain⟨e,he,hev⟩:=Qf2.1 hV;have hb:=List.find?_some (p:=fun e:List D × D=>Fi.nE ds e.1) he;exact⟨e,List.mem_of_find?_eq_some he,Fi.oq hb,hev.symm⟩
  unfold aaC at hp;cases ha:Nat.beq g 21 with
  | true =>
   rw[ha]at hp;cases hp;obtain⟨e,m1,rfl,rfl⟩:=find T hv;rw[Qg2 ha];exact h1 e m1 n hn
  | false =>
   rw[ha]at hp;cases hb:Nat.beq g 19 with
   | true =>
    rw[hb]at hp;cases hp;obtain⟨e,m1,rfl,rfl⟩:=find U hv;rw[Qg2 hb];exact h2 e m1 n hn
   | false =>
    rw[hb]at hp;cases hp
def abb:D:=.a [vB false,.s 1 [],.s 1 [],vI 0,vB false,.v (.int .u64 0),.s 6 [],.s 8 []]
def aaF:D:=q1 1 [.v (.int .u32 4)]
def aaG:D:=aT 1 []
theorem aaM {x:Rat}{d:Nat}(h1:x.num=1)(h2:x.den=d)(hd:1<d)(hd2:d<4294967296):(cO 1 [.q x]).d=q1 1 [.v (.int .u32 d)]:=by
 rw[mk_one cK];have e1:qs x=false:=by unfold qs;rw[h1];rfl
 have e2:qn x=[1]:=by unfold qn;rw[h1];exact Ao.2 rfl
 have e3:qd x=[d]:=by unfold qd;rw[h2,if_neg ae];exact jw ae ae
 show W.d (.mk (qs x) (qn x) (qd x) 0 false 0 [] [])=_;rw[e1,e2,e3];simp only[W.d,W.ds,PD,LD,LL,Qc1,q1];rfl
theorem aaJ:(cO 1 [.q 1]).d=q1 1 []:=by
 rw[mk_one cK];have e1:qs 1=false:=by unfold qs;rfl
 have e2:qn 1=[1]:=by
  have:(1:Rat).num.natAbs=1:=rfl;unfold qn;rw[this];exact Ao.2 rfl
 have e3:qd 1=[]:=if_pos rfl;show W.d (.mk (qs 1) (qn 1) (qd 1) 0 false 0 [] [])=_;rw[e1,e2,e3];simp only[W.d,W.ds,PD,LD,LL,Qc1,q1];rfl
theorem aaL:(cO 1 [.q 0]).d=abb:=by
 rw[mk_one cK];have e1:qs 0=false:=by unfold qs;rfl
 have e2:qn 0=[]:=dD;have e3:qd 0=[]:=if_pos rfl;show W.d (.mk (qs 0) (qn 0) (qd 0) 0 false 0 [] [])=_;rw[e1,e2,e3];simp only[W.d,W.ds,PD,LD,LL,Qc1,abb]
theorem aap {x:Rat}{d:Nat}(h1:x.num.natAbs<=1)(h2:x.den=d)(hd2:d<4294967296):gY 1 1 (dW 1 []) [.q x]:=Zd cK ⟨.inl rfl,by
 unfold qz;rw[h2];exact Nat.max_le.2 ⟨uB (k:=1) ae,uB (k:=1) ae⟩⟩
def aaX:Rat:=mkRat 1 4
def aaS:Rat:=mkRat 1 16
theorem aev:(cO 1 [.q aaX]).d=aaF:=aaM (d:=4) (by decide +kernel) (by decide +kernel) cK cK
theorem aa0:(cO 1 [.q aaS]).d=aaB:=aaM (d:=16) (by decide +kernel) (by decide +kernel) cK cK
theorem abv:gY 1 1 (dW 1 []) [.q aaX]:=aap (d:=4) (by decide +kernel) (by decide +kernel) ae
theorem acY:gY 1 1 (dW 1 []) [.q aaS]:=aap (d:=16) (by decide +kernel) (by decide +kernel) ae
theorem ac1:gY 1 1 (dW 1 []) [.q 1]:=aap (d:=1) cK rfl ae
theorem ahI:gY 1 1 (dW 1 []) [.q 0]:=aap (d:=1) cK rfl ae
theorem aa6 {x y z:Rat}(hx:gY 1 1 (dW 1 []) [.q x])(hy:gY 1 1 (dW 1 []) [.q y])(h:x*y=z):Ca E1 21 [.d aaG,.d (cO 1 [.q x]).d,.d (cO 1 [.q y]).d] (.d (cO 1 [.q z]).d,none):=by
 have t:=QM (kk:=1) (ps:=[]) cK (S:=1) (M:=1) (N:=1) ae ae ae hx hy;rw[show bQ [.q x] [.q y]=[.q z] from by rw[<-h];rfl]at t;exact t
theorem ac2 {x:Rat}(hx:gY 1 1 (dW 1 []) [.q x]):Ca E1 19 [.d aaG,.d (cO 1 [.q 0]).d,.d (cO 1 [.q x]).d] (.d (cO 1 [.q x]).d,none):=by
 have t:=JB (kk:=1) (ps:=[]) cK (S:=1) (M:=1) ae ae ahI hx;rw[show bV (dW 1 []) [.q 0] [.q x]=[.q x] from by
  show [dF 1 (.q 0) (.q x)]=_;show [Sv.q (0+x)]=_;rw[Rat.zero_add]]at t
 exact t
def aew:Env:=acV E1 [([aaG,q1 1 [],aaF],aaF),([aaG,aaF,aaF],aaB),([aaG,aaB,q1 1 []],aaB)] [([aaG,abb,aaF],aaF),([aaG,abb,aaB],aaB)]
def ahR:D:=vB true
def ahT:Env:=give aew 1020 [aX 4] ahR
def ahU:Env:=give ahT 1044 [aX 4] (aX 4)
def ahV:Env:=give ahU 1533 [aX 4,wd2] zr
def akc:Env:=give ahV 1531 [aX 4,wd2] (.t [.s 8 [aaB],zr])
theorem ahW:ag_ (cu aew 3000 1020 ([aX 4].map .d) []) ahR=true:=by kernel_rfl
theorem ahX:ag_ (cu ahT 3000 1044 ([aX 4].map .d) []) (aX 4)=true:=by kernel_rfl
theorem ahY:ag_ (cu ahU 3000 1533 ([aX 4,wd2].map .d) []) zr=true:=by kernel_rfl
theorem ah3:ag_ (cu ahV 3000 1531 ([aX 4,wd2].map .d) []) (.t [.s 8 [aaB],zr])=true:=by kernel_rfl
theorem ah5:ag_ (cu akc 3000 1530 ([aX 4,wd2].map .d) []) (ok0 aaB)=true:=by kernel_rfl
theorem aex:Ca E1 1530 [.d (aX 4),.d wd2] (.d (ok0 aaB),none):=by
 obtain⟨k1,t1⟩:=aa6 ac1 abv (by rw[Rat.one_mul]:(1:Rat)*aaX=aaX);obtain⟨k2,t2⟩:=aa6 abv abv (by decide +kernel:aaX*aaX=aaS);obtain⟨k3,t3⟩:=aa6 acY ac1 (by rw[Rat.mul_one]:aaS*(1:Rat)=aaS);obtain⟨k4,t4⟩:=ac2 abv;obtain⟨k5,t5⟩:=ac2 acY;rw[aev,aaJ]at t1;rw[aev,aa0]at t2;rw[aa0,aaJ]at t3;rw[aev,aaL]at t4;rw[aa0,aaL]at t5;have b:aaY aew E1 (k1+k2+k3+k4+k5) _:=aaW (fun e he n hn=>by
  rcases Qi2.1 he with rfl|he
  ·exact t1 n ae
  rcases Qi2.1 he with rfl|he
  ·exact t2 n ae
  rcases Qi2.1 he with rfl|he
  ·exact t3 n ae
  cases he) (fun e he n hn=>by
  rcases Qi2.1 he with rfl|he
  ·exact t4 n ae
  rcases Qi2.1 he with rfl|he
  ·exact t5 n ae
  cases he)
 exact Ca.of (aaU b (Ql (EA rfl (Y9 ahW)) (Ql (EA rfl (Y9 ahX)) (Ql (EA rfl (Y9 ahY)) (Ql (EA rfl (Y9 ah3)) (Y9 ah5))))))
theorem K7:Ca E1 1604 [] (dB true,none):=by
 obtain⟨k,hk⟩:=aex;obtain⟨n,h⟩:=aaT;exact Ca.of (Ql (EA (K:=k) rfl (hk k (Qd1 _))) h)
end Fi.S
