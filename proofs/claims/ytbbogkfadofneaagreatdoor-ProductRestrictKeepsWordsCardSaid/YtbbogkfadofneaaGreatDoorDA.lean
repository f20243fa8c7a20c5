import Derived.Test.YtbbogkfadofneaaGreatDoorCZ
set_option linter.unusedVariables false
set_option linter.unusedSimpArgs false
noncomputable section
namespace Fi.S
open Go Fi
section
structure Fw {α:Type}(P:α->Prop)(pl tm:α->α->α)(z o:α):Prop where
 pz:P z
 po:P o
 pp:∀ {x y},P x->P y->P (pl x y)
 pt:∀ {x y},P x->P y->P (tm x y)
 comm:∀ {x y},P x->P y->pl x y=pl y x
 assoc:∀ {x y w},P x->P y->P w->pl (pl x y) w=pl x (pl y w)
 zero:∀ {x},P x->pl x z=x
 VU:∀ {x y},P x->P y->tm x y=tm y x
 adm:∀ {x y w},P x->P y->P w->tm (tm x y) w=tm x (tm y w)
 ai3:∀ {x},P x->tm x o=x
 VV:∀ {x},P x->tm x z=z
 agc:∀ {x y w},P x->P y->P w->tm x (pl y w)=pl (tm x y) (tm x w)
section
variable {α:Type} {P:α->Prop} {pl tm:α->α->α} {z o:α}
theorem Fw.zl (A:Fw P pl tm z o){x:α}(h:P x):pl z x=x:=by rw[A.comm A.pz h,A.zero h]
theorem Fw.zt (A:Fw P pl tm z o){x:α}(h:P x):tm z x=z:=by rw[A.VU A.pz h,A.VV h]
def sm (pl:α->α->α)(z:α)(l:List α):α:=l.foldl pl z
variable (A:Fw P pl tm z o)
include A
theorem xk:∀ {l:List α} {x:α},(∀ y ∈ l,P y)->P x->P (l.foldl pl x)/\l.foldl pl x=pl x (sm pl z l)
 | [],x,_,hx=>⟨hx,(A.zero hx).symm⟩
 | y::l,x,h,hx=>by
  have hy:=h y aA;have hl:∀ y ∈ l,P y:=fun y hy=>h y (by simp[hy])
  obtain⟨h1,h2⟩:=xk hl (A.pp hx hy);obtain⟨h3,h4⟩:=xk hl hy;have h5:P (sm pl z l):=(xk hl A.pz).1;refine⟨h1,?_⟩;rw[Qj2,h2];show _=pl x ((y::l).foldl pl z);rw[Qj2,A.zl hy,h4,A.assoc hx hy h5]
theorem GY {l:List α}(h:∀ y ∈ l,P y):P (sm pl z l):=(xk A h A.pz).1
theorem mh {x:α}{l:List α}(hx:P x)(h:∀ y ∈ l,P y):sm pl z (x::l)=pl x (sm pl z l):=by
 show(x::l).foldl pl z=_;rw[Qj2,A.zl hx,(xk A h hx).2]
abbrev PA (P:α->Prop)(l:List (Ar α)):Prop:=∀ a ∈ l,P a.x
theorem Db {x:Ar α}(hx:P x.x):∀ {l:List (Ar α)},PA P l->PA P (bH pl x l):=by
 intro l h;exact mR pl x (fun y=>P y.x) (fun y=>P y.x) hx (fun y hy=>hy) (fun y hy=>A.pp hy hx) l h
structure Add (P:α->Prop)(pl:α->α->α)(h:Ar α->α):Prop where
 p:∀ a,P a.x->P (h a)
 a:∀ a b,nC a b->P a.x->P b.x->h (iX pl a b)=pl (h a) (h b)
theorem Dc {h:Ar α->α}(H:Add P pl h){x:Ar α}(hx:P x.x):∀ {l:List (Ar α)},PA P l->sm pl z ((bH pl x l).map h)=pl (sm pl z (l.map h)) (h x)
 | [],_=>by
  show pl z (h x)=pl z (h x);rfl
 | y::l,hl=>by
  have hy:=hl y aA;have hl':PA P l:=fun a ha=>hl a (by simp[ha])
  have py:=H.p y hy;have px:=H.p x hx;have hm:∀ {m:List (Ar α)},PA P m->∀ w ∈ m.map h,P w:=fun hm w hw=>by
   obtain⟨a,ha,rfl⟩:=Qi1.1 hw;exact H.p a (hm a ha)
  have ps:=GY A (hm hl');unfold bH;split
  ·rw[Qe2,Qe2,mh A py (hm (Db A hx hl')),Dc H hx hl',mh A py (hm hl'),A.assoc py ps px]
  ·split
   ·rename_i he;rw[Qe2,Qe2,mh A (H.p _ (A.pp hy hx)) (hm hl'),H.a y x he hy hx,mh A py (hm hl'),A.assoc py px ps,A.comm px ps,A.assoc py ps px]
   ·rw[Qe2,mh A px (hm hl),A.comm px (GY A (hm hl))]
theorem zO {h:Ar α->α}(H:Add P pl h):∀ {l p:List (Ar α)},PA P l->PA P p->PA P (l.foldl (fun p x=>bH pl x p) p)/\sm pl z ((l.foldl (fun p x=>bH pl x p) p).map h)=pl (sm pl z (p.map h)) (sm pl z (l.map h))
 | [],p,_,hp=>⟨hp,by
   have:P (sm pl z (p.map h)):=GY A (fun w hw=>by
    obtain⟨a,ha,rfl⟩:=Qi1.1 hw;exact H.p a (hp a ha))
   exact(A.zero this).symm⟩
 | x::l,p,hl,hp=>by
  have hx:=hl x aA;have hl':PA P l:=fun a ha=>hl a (by simp[ha])
  have hm:∀ {m:List (Ar α)},PA P m->∀ w ∈ m.map h,P w:=fun hm w hw=>by
   obtain⟨a,ha,rfl⟩:=Qi1.1 hw;exact H.p a (hm a ha)
  obtain⟨h1,h2⟩:=zO H hl' (Db A hx hp);rw[Qj2];refine⟨h1,?_⟩;rw[h2,Dc A H hx hp,Qe2,mh A (H.p x hx) (hm hl'),A.assoc (GY A (hm hp)) (H.p x hx) (GY A (hm hl'))]
theorem JR {h:Ar α->α}(H:Add P pl h){l:List (Ar α)}(hl:PA P l):sm pl z ((dK pl l).map h)=sm pl z (l.map h):=by
 have:=(zO A H (p:=[]) hl (fun a ha=>by cases ha)).2;unfold dK;rw[this];exact A.zl (GY A (fun w hw=>by
  obtain⟨a,ha,rfl⟩:=Qi1.1 hw;exact H.p a (hl a ha)))
theorem yP {l:List (Ar α)}(hl:PA P l):PA P (dK pl l):=by
 have:∀ (l p:List (Ar α)),PA P l->PA P p->PA P (l.foldl (fun p x=>bH pl x p) p):=by
  intro l
  induction l with
  | nil=>intro p _ hp;exact hp
  | cons x l ih=>intro p hl hp;exact ih _ (fun a ha=>hl a (by simp[ha])) (Db A (hl x aA) hp)
 exact this l [] hl (fun a ha=>by cases ha)
theorem OD {β:Type}{h:β->α}{q:β->Bool}:∀ {l:List β},(∀ a ∈ l,P (h a))->(∀ a ∈ l,q a=false->h a=z)->sm pl z ((l.filter q).map h)=sm pl z (l.map h)
 | [],_,_=>rfl
 | a::l,hp,hq=>by
  have ih:=OD (l:=l) (fun b hb=>hp b (by simp[hb])) (fun b hb=>hq b (by simp[hb]));have hm:∀ w ∈ l.map h,P w:=fun w hw=>by
   obtain⟨b,hb,rfl⟩:=Qi1.1 hw;exact hp b (by simp[hb])
  have hmf:∀ w ∈ (l.filter q).map h,P w:=fun w hw=>by
   obtain⟨b,hb,rfl⟩:=Qi1.1 hw;exact hp b (by simp[(Qz1.1 hb).1])
  rw[Qe2,mh A (hp a aA) hm];cases hqa:q a with
  | true=>rw[Xb2 hqa,Qe2,mh A (hp a aA) hmf,ih]
  | false=>rw[Xb1 (by simp[hqa]),ih,hq a aA hqa,A.zl (GY A hm)]
theorem QN {h:Ar α->α}(H:Add P pl h){dP:α->Bool}(hz:∀ a,P a.x->dP a.x=true->h a=z){l:List (Ar α)}(hl:PA P l):sm pl z ((iU pl dP l).map h)=sm pl z (l.map h):=by
 have hr:=yP A hl;rw[<-JR A H hl];exact OD A (fun a ha=>H.p a (hr a ha)) (fun a ha hq=>hz a (hr a ha) (by simpa using hq))
omit A
theorem MP {x:Ar α}{l:List (Ar α)}{y:Ar α}(h:y ∈ bH pl x l):nC y x\/∃ a ∈ l,nC a y:=by
 have:=mR pl x (fun a=>a ∈ l) (fun y=>nC y x\/∃ a ∈ l,nC a y) (.inl ⟨rfl,rfl,rfl⟩) (fun y hy=>.inr ⟨y,hy,rfl,rfl,rfl⟩) (fun y hy=>.inr ⟨y,hy,rfl,rfl,rfl⟩) l (fun y hy=>hy);exact this y h
theorem De {x:Ar α}:∀ {l:List (Ar α)},∃ y ∈ bH pl x l,nC y x
 | []=>⟨x,by simp[bH],rfl,rfl,rfl⟩
 | a::l=>by
  unfold bH;split
  ·obtain⟨y,h1,h2⟩:=De (l:=l);exact⟨y,by simp[h1],h2⟩
  ·split
   ·rename_i he;exact⟨iX pl a x,Qj0 ..,he⟩
   ·exact⟨x,aA,rfl,rfl,rfl⟩
theorem zP {x a:Ar α}:∀ {l:List (Ar α)},a ∈ l->∃ y ∈ bH pl x l,nC y a
 | b::l,h=>by
  unfold bH;split
  ·rcases Qi2.1 h with rfl|h
   ·exact⟨a,aA,rfl,rfl,rfl⟩
   ·obtain⟨y,h1,h2⟩:=zP (x:=x) h;exact⟨y,by simp[h1],h2⟩
  ·split
   ·rcases Qi2.1 h with rfl|h
    ·exact⟨iX pl a x,Qj0 ..,rfl,rfl,rfl⟩
    ·exact⟨a,Qf1 _ h,rfl,rfl,rfl⟩
   ·exact⟨a,Qf1 _ h,rfl,rfl,rfl⟩
theorem xm {l:List (Ar α)}(c:Ar α):(∃ y ∈ dK pl l,nC y c)↔∃ a ∈ l,nC a c:=by
 have key:∀ (l p:List (Ar α)),(∃ y ∈ l.foldl (fun p x=>bH pl x p) p,nC y c)↔(∃ a ∈ p,nC a c)\/∃ a ∈ l,nC a c:=by
  intro l
  induction l with
  | nil=>intro p;simp
  | cons x l ih =>
   intro p;rw[Qj2,ih];constructor
   ·rintro(⟨y,h1,h2⟩|⟨y,h1,h2⟩)
    ·rcases MP h1 with h|⟨a,h3,h4⟩
     ·exact .inr ⟨x,aA,by unfold nC at*;omega⟩
     ·exact .inl ⟨a,h3,by unfold nC at*;omega⟩
    ·exact .inr ⟨y,by simp[h1],h2⟩
   ·rintro(⟨y,h1,h2⟩|⟨y,h1,h2⟩)
    ·obtain⟨w,h3,h4⟩:=zP (pl:=pl) (x:=x) h1;exact .inl ⟨w,h3,by unfold nC at*;omega⟩
    ·rcases Qi2.1 h1 with rfl|h1
     ·obtain⟨w,h3,h4⟩:=De (pl:=pl) (x:=y) (l:=p);exact .inl ⟨w,h3,by unfold nC at*;omega⟩
     ·exact .inr ⟨y,h1,h2⟩
 rw[show dK pl l=l.foldl (fun p x=>bH pl x p) [] from rfl,key];simp
end
end
def Fr (D N:Nat)(x:Rat):Prop:=∃ n:Int,x*(D:Rat)=(n:Rat)/\n.natAbs<=N
theorem Fr.mono {D N M:Nat}{x:Rat}(h:Fr D N x)(hN:N<=M):Fr D M x:=by
 obtain⟨n,h1,h2⟩:=h;exact⟨n,h1,ae⟩
theorem Fr.zero (D N:Nat):Fr D N 0:=⟨0,by simp[Rat.zero_mul],aA⟩
theorem Fr.add {D N M:Nat}{x y:Rat}(h:Fr D N x)(k:Fr D M y):Fr D (N+M) (x+y):=by
 obtain⟨n,h1,h2⟩:=h;obtain⟨m,k1,k2⟩:=k;refine⟨n+m,?_,ae⟩;rw[Rat.add_mul,h1,k1,Rat.intCast_add]
theorem Fr.mul {D E N M:Nat}{x y:Rat}(h:Fr D N x)(k:Fr E M y):Fr (D*E) (N*M) (x*y):=by
 obtain⟨n,h1,h2⟩:=h;obtain⟨m,k1,k2⟩:=k;refine⟨n*m,?_,?_⟩
 ·rw[Rat.natCast_mul,Rat.intCast_mul,<-h1,<-k1];grind
 ·rw[Int.natAbs_mul];exact Q72 h2 k2
theorem OE (x:Rat):x*(x.den:Rat)=(x.num:Rat):=by
 have h:=Rat.num_divInt_den x;rw[Rat.divInt_eq_div]at h;have h0:((x.den:Int):Rat)≠0:=by
  intro h1;have h2:((x.den:Int):Rat)=((0:Int):Rat):=h1;have:=Rat.intCast_inj.1 h2;have:=x.den_nz;omega
 have h3:((x.num:Rat) / ((x.den:Int):Rat))*((x.den:Int):Rat)=(x.num:Rat):=Rat.div_mul_cancel h0;rw[h]at h3;exact h3
theorem Fr.of (x:Rat):Fr x.den x.num.natAbs x:=⟨x.num,OE x,Qd1 _⟩
theorem Fr.parts {D N:Nat}(hD:0<D){x:Rat}(h:Fr D N x):x.num.natAbs<=N/\x.den<=D:=by
 obtain⟨n,h1,h2⟩:=h;have hx:x.num*(D:Int)=n*(x.den:Int):=by
  have h3:(x.num:Rat)*(D:Rat)=(n:Rat)*(x.den:Rat):=by
   rw[<-h1,<-OE x];grind
  have h4:((x.num*(D:Int):Int):Rat)=((n*(x.den:Int):Int):Rat):=by
   rw[Rat.intCast_mul,Rat.intCast_mul,Rat.intCast_natCast,Rat.intCast_natCast];exact h3
  exact Rat.intCast_inj.1 h4
 have ha:x.num.natAbs*D=n.natAbs*x.den:=by
  have:=congrArg Int.natAbs hx;simpa[Int.natAbs_mul] using this
 have hc:Nat.Coprime x.den x.num.natAbs:=Nat.Coprime.symm x.reduced;have hd:x.den ∣ D:=hc.dvd_of_dvd_mul_left ⟨n.natAbs,by rw[ha,Ql1]⟩;obtain⟨c,rfl⟩:=hd;have hden:0<x.den:=Nat.pos_of_ne_zero x.den_nz;have hc0:0<c:=Nat.pos_of_mul_pos_left hD;have hn:x.num.natAbs*c=n.natAbs:=by
  refine Nat.eq_of_mul_eq_mul_right hden ?_;rw[<-ha,Q52,Ql1 c]
 refine⟨?_,Xk2 _ hc0⟩;have:=Xk2 x.num.natAbs hc0;omega
theorem Fr.qz {D N k:Nat}(hD:0<D){x:Rat}(h:Fr D N x)(hN:N<4294967296 ^ k)(hDk:D<4294967296 ^ k):qz x<=k:=by
 obtain⟨h1,h2⟩:=h.parts hD;exact Nat.max_le.2 ⟨uB (Xa1 h1 hN),uB (Xa1 h2 hDk)⟩
theorem VW {D N E M:Nat}{f:fT->Rat}(hf:∀ e,Fr E M (f e))(e:fT):∀ {a:List a_},(∀ p ∈ a,Fr D N p.2)->Fr (D*E) (a.length*(N*M)) (cv a f e)
 | [],_=>Fr.zero _ _
 | (d,y)::a,h=>by
  have h1:=(h (d,y) (Qj0 ..)).mul (hf (e.1-d.1,e.2.1-d.2.1,e.2.2-d.2.2));have h2:=VW hf e (a:=a) (fun p hp=>h p (Qf1 _ hp));refine(h1.add h2).mono ?_;rw[Qg0,Qp1];omega
end Fi.S
noncomputable section
namespace Fi.S
open Go Fi
set_option maxHeartbeats 8000000
def Ei (ks:List Int)(xs:List Sv):Prop:=∃ S M,1<=S/\1<=M/\gY S M ks xs
theorem Ei.two {ks:List Int}{x y:List Sv}:Ei ks x->Ei ks y->∃ S M,1<=S/\1<=M/\gY S M ks x/\gY S M ks y:=by
 rintro⟨S,M,h1,h2,h3⟩ ⟨T,N,k1,k2,k3⟩;exact⟨S+T,M+N,ae,ae,h3.mono ae ae,k3.mono ae ae⟩
theorem Ei.three {ks:List Int}{x y w:List Sv}(hx:Ei ks x)(hy:Ei ks y):Ei ks w->∃ S M,1<=S/\1<=M/\gY S M ks x/\gY S M ks y/\gY S M ks w:=by
 rintro⟨T,N,k1,k2,k3⟩;obtain⟨S,M,h1,h2,h3,h4⟩:=hx.two hy;exact⟨S+T,M+N,ae,ae,h3.mono ae ae,h4.mono ae ae,k3.mono ae ae⟩
theorem MQ {ks:List Int}(hs:∀ k ∈ ks,single k=true):Fw (Ei ks) (bV ks) bQ (ks.map dH) (ks.map pU) where
 pz:=⟨1,1,ae,ae,mF ae hs⟩
 po:=⟨1,1,ae,ae,Jv ae ae hs⟩
 pp h k:=by
  obtain⟨S,M,h1,h2,h3,h4⟩:=h.two k;exact⟨_,_,ae,ae,CJ h1 h1 hs h3 h4⟩
 pt h k:=by
  obtain⟨S,M,h1,h2,h3,h4⟩:=h.two k;exact⟨_,_,ae,Xc1 h2 h2,Ms h1 h2 hs h3 h4⟩
 comm h k:=by
  obtain⟨S,M,h1,h2,h3,h4⟩:=h.two k;exact Mt h1 hs h3 h4
 assoc h k l:=by
  obtain⟨S,M,h1,h2,h3,h4,h5⟩:=h.three k l;exact Js h1 hs h3 h4 h5
 zero h:=by
  obtain⟨S,M,h1,h2,h3⟩:=h;exact Cr h1 hs h3
 VU h k:=by
  obtain⟨S,M,h1,h2,h3,h4⟩:=h.two k;exact Jr h1 hs h3 h4
 adm h k l:=by
  obtain⟨S,M,h1,h2,h3,h4,h5⟩:=h.three k l;exact GI h1 hs h3 h4 h5
 ai3 h:=by
  obtain⟨S,M,h1,h2,h3⟩:=h;exact Mv h1 hs h3
 VV h:=by
  obtain⟨S,M,h1,h2,h3⟩:=h;exact Ju hs h3
 agc h k l:=by
  obtain⟨S,M,h1,h2,h3,h4,h5⟩:=h.three k l;exact Jt h1 hs h3 h4 h5
def MR (D N:Nat):Sv->Prop
 | .q a=>Fr D N a
 | .p l=>∀ e,Fr D N (tot l e)
 | _=>True
def Ej (D N:Nat)(xs:List Sv):Prop:=∀ x ∈ xs,MR D N x
theorem MR.mono {D N M:Nat}{x:Sv}(h:MR D N x)(hN:N<=M):MR D M x:=by
 cases x with
 | q a=>exact Fr.mono h hN
 | p l=>exact fun e=>(h e).mono hN
 | c i n=>trivial
 | s u=>trivial
theorem Ej.mono {D N M:Nat}{x:List Sv}(h:Ej D N x)(hN:N<=M):Ej D M x:=fun y hy=>(h y hy).mono hN
theorem VX {k:Int}(hk:single k=true)(D N:Nat):MR D N (dH k):=by
 rcases aO hk with rfl|rfl|rfl|rfl|rfl
 ·exact Fr.zero D N
 ·trivial
 ·exact Fr.zero D N
 ·trivial
 ·exact fun e=>Fr.zero D N
theorem GZ {D N:Nat}(h:D<=N):Fr D N 1:=⟨D,by rw[Rat.one_mul];rfl,ae⟩
theorem yQ (x:Rat)(e:fT):tot (bZ x) e=if e=(0,0,0) then x else 0:=by
 unfold bZ
 by_cases h:x=0
 ·rw[if_pos h];subst h;simp[tot]
 ·rw[if_neg h]
  by_cases he:e=(0,0,0)
  ·subst he;simp[tot,Rat.add_zero]
  ·have he':¬ (((0:Int),(0:Int),(0:Int))=e):=fun g=>he g.symm
   simp[tot,he,he',Rat.add_zero]
theorem ZO {k:Int}(hk:single k=true){D N:Nat}(h:D<=N):MR D N (pU k):=by
 rcases aO hk with rfl|rfl|rfl|rfl|rfl
 ·exact GZ h
 ·trivial
 ·exact GZ h
 ·trivial
 ·intro e;show Fr D N (tot (bZ 1) e);rw[yQ];split
  ·exact GZ h
  ·exact Fr.zero _ _
theorem VY {k:Int}(hk:single k=true){S M D N N':Nat}{x y:Sv}(hx:x.of k S M)(hy:y.of k S M)(fx:MR D N x)(fy:MR D N' y):MR D (N+N') (dF k x y):=by
 rcases aO hk with rfl|rfl|rfl|rfl|rfl
 ·obtain⟨a,rfl,_⟩:=wP hx;obtain⟨b,rfl,_⟩:=wP hy;exact Fr.add fx fy
 ·obtain⟨i,n,rfl,_⟩:=wQ hx;obtain⟨j,m,rfl,_⟩:=wQ hy;rw[U_];split<;>trivial
 ·obtain⟨a,rfl,_⟩:=wR hx;obtain⟨b,rfl,_⟩:=wR hy;rw[pl3];split
  ·exact Fr.mono fy ae
  ·exact Fr.mono fx ae
 ·obtain⟨u,rfl,_⟩:=wS hx;obtain⟨v,rfl,_⟩:=wS hy;trivial
 ·obtain⟨a,rfl,_⟩:=wT hx;obtain⟨b,rfl,_⟩:=wT hy;intro e;show Fr D _ (tot (gz a b) e);rw[jK];exact(fx e).add (fy e)
theorem QO {k:Int}(hk:single k=true){S M S' M' D E N N':Nat}(hM:1<=M){x y:Sv}(hx:x.of k S M)(hy:y.of k S' M')(fx:MR D N x)(fy:MR E N' y):MR (D*E) (M*(N*N')) (dn x y):=by
 have hMN:N*N'<=M*(N*N'):=Nat.le_mul_of_pos_left _ hM;rcases aO hk with rfl|rfl|rfl|rfl|rfl
 ·obtain⟨a,rfl,_⟩:=wP hx;obtain⟨b,rfl,_⟩:=wP hy;exact(Fr.mul fx fy).mono hMN
 ·obtain⟨i,n,rfl,_⟩:=wQ hx;obtain⟨j,m,rfl,_⟩:=wQ hy;rw[Va];split<;>trivial
 ·obtain⟨a,rfl,_⟩:=wR hx;obtain⟨b,rfl,_⟩:=wR hy;exact(Fr.mul fx fy).mono hMN
 ·obtain⟨u,rfl,_⟩:=wS hx;obtain⟨v,rfl,_⟩:=wS hy;trivial
 ·obtain⟨a,rfl,pa,la⟩:=wT hx;obtain⟨b,rfl,_⟩:=wT hy;intro e;show Fr _ _ (tot (iJ a b) e);rw[lY];split
  ·refine(VW (fun e=>fy e) e (fun p hp => ?_)).mono (Qe0 _ la);have:=fx p.1
   rwa [tL (jg pa.LW) hp]at this
  ·exact Fr.zero _ _
theorem MS {k:Int}(hk:single k=true){S M D N T:Nat}{x:Sv}(hx:x.of k S M)(fx:MR D N x)(hD:0<D)(hDT:D<4294967296 ^ T)(hN:N<4294967296 ^ T):x.of k T 216:=by
 rcases aO hk with rfl|rfl|rfl|rfl|rfl
 ·obtain⟨a,rfl,_⟩:=wP hx;exact⟨.inl rfl,Fr.qz hD fx hN hDT⟩
 ·obtain⟨i,n,rfl,h⟩:=wQ hx;exact⟨rfl,h⟩
 ·obtain⟨a,rfl,h0,h1,_⟩:=wR hx;exact⟨.inr ⟨rfl,h0,h1⟩,Fr.qz hD fx hN hDT⟩
 ·obtain⟨u,rfl,h⟩:=wS hx;exact⟨rfl,h⟩
 ·obtain⟨a,rfl,pa,la⟩:=wT hx;refine⟨rfl,⟨pa.LW,pa.nz,pa.fits,fun p hp => ?_⟩,pa.length⟩;have:=fx p.1;rw[tL (jg pa.LW) hp]at this;exact Fr.qz hD this hN hDT
section lists
variable {ks:List Int} (hs:∀ k ∈ ks,single k=true) {D E N N' S M:Nat} {x y:List Sv}
include hs
theorem JS (D N:Nat):Ej D N (ks.map dH):=fun y hy=>by
 obtain⟨k,hk,rfl⟩:=Qi1.1 hy;exact VX (hs k hk) D N
theorem ZP (h:D<=N):Ej D N (ks.map pU):=fun y hy=>by
 obtain⟨k,hk,rfl⟩:=Qi1.1 hy;exact ZO (hs k hk) h
theorem xn (hx:Ei ks x)(hy:Ei ks y)(fx:Ej D N x)(fy:Ej D N' y):Ej D (N+N') (bV ks x y):=by
 obtain⟨S,M,_,_,h3,h4⟩:=hx.two hy;intro w hw;obtain⟨i,hi⟩:=Xh2.1 hw;obtain⟨k,a,b,a1,a2,a3,rfl⟩:=gT hi;exact VY (hs k (Qa2 a1)) (h3.2 i k a a1 a2) (h4.2 i k b a1 a3) (fx a (Qa2 a2)) (fy b (Qa2 a3))
theorem QP (hM:1<=M)(hx:gY S M ks x)(hy:Ei ks y)(fx:Ej D N x)(fy:Ej E N' y):Ej (D*E) (M*(N*N')) (bQ x y):=by
 obtain⟨S',M',_,_,h3⟩:=hy;intro w hw;obtain⟨i,hi⟩:=Xh2.1 hw;obtain⟨a,b,a2,a3,rfl⟩:=eB hi;have hlt:i<ks.length:=by rw[<-hx.1];exact(bq a2)
 have a1:=Qa1 hlt;exact QO (hs _ (Qa2 a1)) hM (hx.2 i _ a a1 a2) (h3.2 i _ b a1 a3) (fx a (Qa2 a2)) (fy b (Qa2 a3))
theorem xw {T:Nat}(hx:Ei ks x)(fx:Ej D N x)(hD:0<D)(hDT:D<4294967296 ^ T)(hN:N<4294967296 ^ T):gY T 216 ks x:=by
 obtain⟨S,M,_,_,h⟩:=hx;exact⟨h.1,fun i k a hk ha=>MS (hs k (Qa2 hk)) (h.2 i k a hk ha) (fx a (Qa2 ha)) hD hDT hN⟩
end lists
theorem Df {a b:Int}{D c N:Nat}(hb:0<b)(hc:(c:Int)*b=D)(hN:a.natAbs*c<=N):Fr D N (q8 a b):=by
 refine⟨a*c,?_,by rw[Int.natAbs_mul];simpa using hN⟩;have hb0:(b:Rat)≠0:=by
  intro h;have:=Rat.intCast_inj.1 (h.trans rfl:(b:Rat)=((0:Int):Rat));omega
 have hD:(D:Rat)=(c:Rat)*(b:Rat):=by
  have:((D:Int):Rat)=(((c:Int)*b:Int):Rat):=by rw[hc]
  rw[Rat.intCast_mul,Rat.intCast_natCast,Rat.intCast_natCast]at this;exact this
 rw[Te a b ae,hD,Rat.intCast_mul,Rat.intCast_natCast];have:(a:Rat) / (b:Rat)*(b:Rat)=(a:Rat):=Rat.div_mul_cancel hb0;grind
theorem OG (v:Int):Fr 6 36 (uo v):=by
 unfold uo;have h1:=Qo1 v (show(13:Int)≠0 by omega);have h2:=Ql2 v (show(0:Int)<13 by omega);have h3:=Qo1 (v.tdiv 13) (show(3:Int)≠0 by omega);have h4:=Ql2 (v.tdiv 13) (show(0:Int)<3 by omega);generalize v % 13=a,v.tdiv 13 % 3=b at*;have:b=0\/b=1\/b=2:=ae;rcases this with rfl|rfl|rfl
 ·exact Df (c:=6) ae ae ae
 ·exact Df (c:=3) ae ae ae
 ·exact Df (c:=2) ae ae ae
theorem VZ (v:Int)(e:fT):Fr 6 64 (tot (zC v) e):=by
 have hc:∀ e,Fr 6 4 (tot (bZ (q8 (v % 5-2) 3)) e):=fun e=>by
  rw[yQ];split
  ·exact Df (c:=2) ae ae ae
  ·exact Fr.zero _ _
 unfold zC;split
 ·rw[jK,lY];refine((hc e).add (M:=36) ?_).mono ae;split
  ·have:=VW (D:=1) (N:=1) (f:=tot (bZ (uo v))) (E:=6) (M:=36) (fun e=>by
    rw[yQ];split
    ·exact OG v
    ·exact Fr.zero _ _) e (a:=[(ic ((v.tdiv 10) % 3).toNat,1)]) (fun p hp=>by
    rw[Qz0]at hp;subst hp;exact GZ (Qd1 _))
   simpa using this
  ·exact Fr.zero _ _
 ·exact(hc e).mono ae
theorem JU {k:Int}(hk:single k=true)(v:Int):MR 6 64 (Cf k v):=by
 rcases aO hk with rfl|rfl|rfl|rfl|rfl
 ·exact(OG v).mono ae
 ·show MR 6 64 (if v % 11=10 then Sv.c true 0 else .c false (v % 11));split<;>trivial
 ·exact Df (c:=1) ae ae ae
 ·trivial
 ·exact VZ v
theorem Dg {kk:Int}{ps:List Int}(h:aK kk ps=true)(v:Int):Ej 6 64 (rQ kk ps v):=by
 have hs:=aU h;unfold rQ dW at*;intro x hx
 by_cases h6:kk=6
 ·simp only[if_pos h6]at*;obtain⟨i,hi,rfl⟩:=Qi1.1 hx;have hi':=Xu2.1 hi;have hg:ps.getD i 0=ps[i]:=by rw[Qk2,Qa1 hi'];rfl
  rw[hg];exact JU (hs _ (Qi0 hi')) _
 ·simp only[if_neg h6]at*;rw[Qz0]at hx;subst hx;exact JU (hs kk aA) v
end Fi.S
