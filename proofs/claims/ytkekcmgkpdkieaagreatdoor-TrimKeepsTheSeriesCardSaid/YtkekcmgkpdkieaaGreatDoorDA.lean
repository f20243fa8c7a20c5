import Derived.Test.YtkekcmgkpdkieaaGreatDoorCZ
set_option linter.unusedVariables false
set_option linter.unusedSimpArgs false
noncomputable section
namespace Fi.S
open Go Fi
section
structure Jl {α:Type}(P:α->Prop)(pl tm:α->α->α)(z o:α):Prop where
 pz:P z
 po:P o
 pp:∀ {x y},P x->P y->P (pl x y)
 pt:∀ {x y},P x->P y->P (tm x y)
 comm:∀ {x y},P x->P y->pl x y=pl y x
 assoc:∀ {x y w},P x->P y->P w->pl (pl x y) w=pl x (pl y w)
 zero:∀ {x},P x->pl x z=x
 XA:∀ {x y},P x->P y->tm x y=tm y x
 afx:∀ {x y w},P x->P y->P w->tm (tm x y) w=tm x (tm y w)
 alk:∀ {x},P x->tm x o=x
 Qc:∀ {x},P x->tm x z=z
 ait:∀ {x y w},P x->P y->P w->tm x (pl y w)=pl (tm x y) (tm x w)
section
variable {α:Type} {P:α->Prop} {pl tm:α->α->α} {z o:α}
theorem Jl.zl (A:Jl P pl tm z o){x:α}(h:P x):pl z x=x:=by rw[A.comm A.pz h,A.zero h]
theorem Jl.zt (A:Jl P pl tm z o){x:α}(h:P x):tm z x=z:=by rw[A.XA A.pz h,A.Qc h]
def sm (pl:α->α->α)(z:α)(l:List α):α:=l.foldl pl z
variable (A:Jl P pl tm z o)
include A
theorem yA:∀ {l:List α} {x:α},(∀ y ∈ l,P y)->P x->P (l.foldl pl x)/\l.foldl pl x=pl x (sm pl z l)
 | [],x,_,hx=>⟨hx,(A.zero hx).symm⟩
 | y::l,x,h,hx=>by
  have hy:=h y aC;have hl:∀ y ∈ l,P y:=fun y hy=>h y (by simp[hy])
  obtain⟨h1,h2⟩:=yA hl (A.pp hx hy);obtain⟨h3,h4⟩:=yA hl hy;have h5:P (sm pl z l):=(yA hl A.pz).1;refine⟨h1,?_⟩;rw[Qk2,h2];show _=pl x ((y::l).foldl pl z);rw[Qk2,A.zl hy,h4,A.assoc hx hy h5]
theorem Fp {l:List α}(h:∀ y ∈ l,P y):P (sm pl z l):=(yA A h A.pz).1
theorem jG {x:α}{l:List α}(hx:P x)(h:∀ y ∈ l,P y):sm pl z (x::l)=pl x (sm pl z l):=by
 show(x::l).foldl pl z=_;rw[Qk2,A.zl hx,(yA A h hx).2]
abbrev PA (P:α->Prop)(l:List (Ar α)):Prop:=∀ a ∈ l,P a.x
theorem Eh {x:Ar α}(hx:P x.x):∀ {l:List (Ar α)},PA P l->PA P (aZ pl x l):=by
 intro l h;exact nM pl x (fun y=>P y.x) (fun y=>P y.x) hx (fun y hy=>hy) (fun y hy=>A.pp hy hx) l h
structure Add (P:α->Prop)(pl:α->α->α)(h:Ar α->α):Prop where
 p:∀ a,P a.x->P (h a)
 a:∀ a b,mF a b->P a.x->P b.x->h (jf pl a b)=pl (h a) (h b)
theorem Ei {h:Ar α->α}(H:Add P pl h){x:Ar α}(hx:P x.x):∀ {l:List (Ar α)},PA P l->sm pl z ((aZ pl x l).map h)=pl (sm pl z (l.map h)) (h x)
 | [],_=>by
  show pl z (h x)=pl z (h x);rfl
 | y::l,hl=>by
  have hy:=hl y aC;have hl':PA P l:=fun a ha=>hl a (by simp[ha])
  have py:=H.p y hy;have px:=H.p x hx;have hm:∀ {m:List (Ar α)},PA P m->∀ w ∈ m.map h,P w:=fun hm w hw=>by
   obtain⟨a,ha,rfl⟩:=Qg1.1 hw;exact H.p a (hm a ha)
  have ps:=Fp A (hm hl');unfold aZ;split
  ·rw[Qd2,Qd2,jG A py (hm (Eh A hx hl')),Ei H hx hl',jG A py (hm hl'),A.assoc py ps px]
  ·split
   ·rename_i he;rw[Qd2,Qd2,jG A (H.p _ (A.pp hy hx)) (hm hl'),H.a y x he hy hx,jG A py (hm hl'),A.assoc py px ps,A.comm px ps,A.assoc py ps px]
   ·rw[Qd2,jG A px (hm hl),A.comm px (Fp A (hm hl))]
theorem AY {h:Ar α->α}(H:Add P pl h):∀ {l p:List (Ar α)},PA P l->PA P p->PA P (l.foldl (fun p x=>aZ pl x p) p)/\sm pl z ((l.foldl (fun p x=>aZ pl x p) p).map h)=pl (sm pl z (p.map h)) (sm pl z (l.map h))
 | [],p,_,hp=>⟨hp,by
   have:P (sm pl z (p.map h)):=Fp A (fun w hw=>by
    obtain⟨a,ha,rfl⟩:=Qg1.1 hw;exact H.p a (hp a ha))
   exact(A.zero this).symm⟩
 | x::l,p,hl,hp=>by
  have hx:=hl x aC;have hl':PA P l:=fun a ha=>hl a (by simp[ha])
  have hm:∀ {m:List (Ar α)},PA P m->∀ w ∈ m.map h,P w:=fun hm w hw=>by
   obtain⟨a,ha,rfl⟩:=Qg1.1 hw;exact H.p a (hm a ha)
  obtain⟨h1,h2⟩:=AY H hl' (Eh A hx hp);rw[Qk2];refine⟨h1,?_⟩;rw[h2,Ei A H hx hp,Qd2,jG A (H.p x hx) (hm hl'),A.assoc (Fp A (hm hp)) (H.p x hx) (Fp A (hm hl'))]
theorem K5 {h:Ar α->α}(H:Add P pl h){l:List (Ar α)}(hl:PA P l):sm pl z ((bX pl l).map h)=sm pl z (l.map h):=by
 have:=(AY A H (p:=[]) hl (fun a ha=>by cases ha)).2;unfold bX;rw[this];exact A.zl (Fp A (fun w hw=>by
  obtain⟨a,ha,rfl⟩:=Qg1.1 hw;exact H.p a (hl a ha)))
theorem Gs {l:List (Ar α)}(hl:PA P l):PA P (bX pl l):=by
 have:∀ (l p:List (Ar α)),PA P l->PA P p->PA P (l.foldl (fun p x=>aZ pl x p) p):=by
  intro l
  induction l with
  | nil=>intro p _ hp;exact hp
  | cons x l ih=>intro p hl hp;exact ih _ (fun a ha=>hl a (by simp[ha])) (Eh A (hl x aC) hp)
 exact this l [] hl (fun a ha=>by cases ha)
theorem Iy {β:Type}{h:β->α}{q:β->Bool}:∀ {l:List β},(∀ a ∈ l,P (h a))->(∀ a ∈ l,q a=false->h a=z)->sm pl z ((l.filter q).map h)=sm pl z (l.map h)
 | [],_,_=>rfl
 | a::l,hp,hq=>by
  have ih:=Iy (l:=l) (fun b hb=>hp b (by simp[hb])) (fun b hb=>hq b (by simp[hb]));have hm:∀ w ∈ l.map h,P w:=fun w hw=>by
   obtain⟨b,hb,rfl⟩:=Qg1.1 hw;exact hp b (by simp[hb])
  have hmf:∀ w ∈ (l.filter q).map h,P w:=fun w hw=>by
   obtain⟨b,hb,rfl⟩:=Qg1.1 hw;exact hp b (by simp[(Qu0.1 hb).1])
  rw[Qd2,jG A (hp a aC) hm];cases hqa:q a with
  | true=>rw[Q72 hqa,Qd2,jG A (hp a aC) hmf,ih]
  | false=>rw[Q71 (by simp[hqa]),ih,hq a aC hqa,A.zl (Fp A hm)]
theorem Sq {h:Ar α->α}(H:Add P pl h){bD:α->Bool}(hz:∀ a,P a.x->bD a.x=true->h a=z){l:List (Ar α)}(hl:PA P l):sm pl z ((dG pl bD l).map h)=sm pl z (l.map h):=by
 have hr:=Gs A hl;rw[<-K5 A H hl];exact Iy A (fun a ha=>H.p a (hr a ha)) (fun a ha hq=>hz a (hr a ha) (by simpa using hq))
omit A
abbrev zT (l:List (Ar α)):Prop:=l.Pairwise iH
theorem wK {x:Ar α}{l:List (Ar α)}{y:Ar α}(h:y ∈ aZ pl x l):mF y x\/∃ a ∈ l,mF a y:=by
 have:=nM pl x (fun a=>a ∈ l) (fun y=>mF y x\/∃ a ∈ l,mF a y) (.inl ⟨rfl,rfl,rfl⟩) (fun y hy=>.inr ⟨y,hy,rfl,rfl,rfl⟩) (fun y hy=>.inr ⟨y,hy,rfl,rfl,rfl⟩) l (fun y hy=>hy);exact this y h
theorem wL (x:Ar α):∀ {l:List (Ar α)},zT l->zT (aZ pl x l)
 | [],_=>by simp[aZ]
 | y::l,h=>by
  obtain⟨h1,h2⟩:=Qn1.1 h;unfold aZ;split
  ·rename_i hl;refine Qn1.2 ⟨fun c hc => ?_,wL x h2⟩;rcases wK hc with hc|⟨a,ha,he⟩
   ·unfold iH mF at*;omega
   ·have:=h1 a ha;unfold iH mF at*;omega
  ·split
   ·exact Qn1.2 ⟨fun c hc=>h1 c hc,h2⟩
   ·rename_i hl he;have hxy:iH x y:=by
     rcases iY y x with g|g|g
     ·exact absurd g hl
     ·exact absurd g he
     ·exact g
    refine Qn1.2 ⟨fun c hc => ?_,h⟩;rcases Qj0.1 hc with rfl|hc
    ·exact hxy
    ·exact Gj hxy (h1 c hc)
theorem K6 (l:List (Ar α)):zT (bX pl l):=by
 have:∀ (l p:List (Ar α)),zT p->zT (l.foldl (fun p x=>aZ pl x p) p):=by
  intro l
  induction l with
  | nil=>intro p hp;exact hp
  | cons x l ih=>intro p hp;exact ih _ (wL x hp)
 exact this l [] List.Pairwise.nil
theorem Ej {x:Ar α}:∀ {l:List (Ar α)},∃ y ∈ aZ pl x l,mF y x
 | []=>⟨x,by simp[aZ],rfl,rfl,rfl⟩
 | a::l=>by
  unfold aZ;split
  ·obtain⟨y,h1,h2⟩:=Ej (l:=l);exact⟨y,by simp[h1],h2⟩
  ·split
   ·rename_i he;exact⟨jf pl a x,Qj2 ..,he⟩
   ·exact⟨x,aC,rfl,rfl,rfl⟩
theorem AZ {x a:Ar α}:∀ {l:List (Ar α)},a ∈ l->∃ y ∈ aZ pl x l,mF y a
 | b::l,h=>by
  unfold aZ;split
  ·rcases Qj0.1 h with rfl|h
   ·exact⟨a,aC,rfl,rfl,rfl⟩
   ·obtain⟨y,h1,h2⟩:=AZ (x:=x) h;exact⟨y,by simp[h1],h2⟩
  ·split
   ·rcases Qj0.1 h with rfl|h
    ·exact⟨jf pl a x,Qj2 ..,rfl,rfl,rfl⟩
    ·exact⟨a,Qg2 _ h,rfl,rfl,rfl⟩
   ·exact⟨a,Qg2 _ h,rfl,rfl,rfl⟩
theorem mY {l:List (Ar α)}(c:Ar α):(∃ y ∈ bX pl l,mF y c)↔∃ a ∈ l,mF a c:=by
 have key:∀ (l p:List (Ar α)),(∃ y ∈ l.foldl (fun p x=>aZ pl x p) p,mF y c)↔(∃ a ∈ p,mF a c)\/∃ a ∈ l,mF a c:=by
  intro l
  induction l with
  | nil=>intro p;simp
  | cons x l ih =>
   intro p;rw[Qk2,ih];constructor
   ·rintro(⟨y,h1,h2⟩|⟨y,h1,h2⟩)
    ·rcases wK h1 with h|⟨a,h3,h4⟩
     ·exact .inr ⟨x,aC,by unfold mF at*;omega⟩
     ·exact .inl ⟨a,h3,by unfold mF at*;omega⟩
    ·exact .inr ⟨y,by simp[h1],h2⟩
   ·rintro(⟨y,h1,h2⟩|⟨y,h1,h2⟩)
    ·obtain⟨w,h3,h4⟩:=AZ (pl:=pl) (x:=x) h1;exact .inl ⟨w,h3,by unfold mF at*;omega⟩
    ·rcases Qj0.1 h1 with rfl|h1
     ·obtain⟨w,h3,h4⟩:=Ej (pl:=pl) (x:=y) (l:=p);exact .inl ⟨w,h3,by unfold mF at*;omega⟩
     ·exact .inr ⟨y,h1,h2⟩
 rw[show bX pl l=l.foldl (fun p x=>aZ pl x p) [] from rfl,key];simp
theorem El {l:List (Ar α)}(hs:zT l):bX pl l=l:=by
 have ins:∀ (p:List (Ar α)) (x:Ar α),(∀ y ∈ p,iH y x)->aZ pl x p=p++[x]:=by
  intro p x
  induction p with
  | nil=>intro _;rfl
  | cons y p ih =>
   intro h;rw[aZ,if_pos (h y aC),ih (fun y hy=>h y (by simp[hy]))];rfl
 have:∀ (l p:List (Ar α)),zT (p++l)->l.foldl (fun p x=>aZ pl x p) p=p++l:=by
  intro l
  induction l with
  | nil=>intro p _;simp
  | cons x l ih =>
   intro p h;have h1:=List.pairwise_append.1 h;rw[Qk2,ins p x (fun y hy=>h1.2.2 y hy x aC),ih _ (by simpa using h)];simp
 exact this l [] (by simpa using hs)
theorem Gt (bD:α->Bool)(l:List (Ar α)):zT (dG pl bD l):=(K6 l).sublist List.filter_sublist
theorem Oo (bD:α->Bool)(l:List (Ar α)):dG pl bD (dG pl bD l)=dG pl bD l:=by
 show(bX pl (dG pl bD l)).filter (fun a => !bD a.x)=_;rw[El (Gt bD l)];unfold dG;rw[X72];simp
end
end
def Fr (D N:Nat)(x:Rat):Prop:=∃ n:Int,x*(D:Rat)=(n:Rat)/\n.natAbs<=N
theorem Fr.mono {D N M:Nat}{x:Rat}(h:Fr D N x)(hN:N<=M):Fr D M x:=by
 obtain⟨n,h1,h2⟩:=h;exact⟨n,h1,ae⟩
theorem Fr.zero (D N:Nat):Fr D N 0:=⟨0,by simp[Rat.zero_mul],aC⟩
theorem Fr.add {D N M:Nat}{x y:Rat}(h:Fr D N x)(k:Fr D M y):Fr D (N+M) (x+y):=by
 obtain⟨n,h1,h2⟩:=h;obtain⟨m,k1,k2⟩:=k;refine⟨n+m,?_,ae⟩;rw[Rat.add_mul,h1,k1,Rat.intCast_add]
theorem Fr.mul {D E N M:Nat}{x y:Rat}(h:Fr D N x)(k:Fr E M y):Fr (D*E) (N*M) (x*y):=by
 obtain⟨n,h1,h2⟩:=h;obtain⟨m,k1,k2⟩:=k;refine⟨n*m,?_,?_⟩
 ·rw[Rat.natCast_mul,Rat.intCast_mul,<-h1,<-k1];grind
 ·rw[Int.natAbs_mul];exact Q92 h2 k2
theorem Qd (x:Rat):x*(x.den:Rat)=(x.num:Rat):=by
 have h:=Rat.num_divInt_den x;rw[Rat.divInt_eq_div]at h;have h0:((x.den:Int):Rat)≠0:=by
  intro h1;have h2:((x.den:Int):Rat)=((0:Int):Rat):=h1;have:=Rat.intCast_inj.1 h2;have:=x.den_nz;omega
 have h3:((x.num:Rat) / ((x.den:Int):Rat))*((x.den:Int):Rat)=(x.num:Rat):=Rat.div_mul_cancel h0;rw[h]at h3;exact h3
theorem Fr.of (x:Rat):Fr x.den x.num.natAbs x:=⟨x.num,Qd x,Qe1 _⟩
theorem Fr.parts {D N:Nat}(hD:0<D){x:Rat}(h:Fr D N x):x.num.natAbs<=N/\x.den<=D:=by
 obtain⟨n,h1,h2⟩:=h;have hx:x.num*(D:Int)=n*(x.den:Int):=by
  have h3:(x.num:Rat)*(D:Rat)=(n:Rat)*(x.den:Rat):=by
   rw[<-h1,<-Qd x];grind
  have h4:((x.num*(D:Int):Int):Rat)=((n*(x.den:Int):Int):Rat):=by
   rw[Rat.intCast_mul,Rat.intCast_mul,Rat.intCast_natCast,Rat.intCast_natCast];exact h3
  exact Rat.intCast_inj.1 h4
 have ha:x.num.natAbs*D=n.natAbs*x.den:=by
  have:=congrArg Int.natAbs hx;simpa[Int.natAbs_mul] using this
 have hc:Nat.Coprime x.den x.num.natAbs:=Nat.Coprime.symm x.reduced;have hd:x.den ∣ D:=hc.dvd_of_dvd_mul_left ⟨n.natAbs,by rw[ha,Ql2]⟩;obtain⟨c,rfl⟩:=hd;have hden:0<x.den:=Nat.pos_of_ne_zero x.den_nz;have hc0:0<c:=Nat.pos_of_mul_pos_left hD;have hn:x.num.natAbs*c=n.natAbs:=by
  refine Nat.eq_of_mul_eq_mul_right hden ?_;rw[<-ha,Q81,Ql2 c]
 refine⟨?_,Xo1 _ hc0⟩;have:=Xo1 x.num.natAbs hc0;omega
theorem Fr.qz {D N k:Nat}(hD:0<D){x:Rat}(h:Fr D N x)(hN:N<4294967296 ^ k)(hDk:D<4294967296 ^ k):qz x<=k:=by
 obtain⟨h1,h2⟩:=h.parts hD;exact Nat.max_le.2 ⟨vG (Xd2 h1 hN),vG (Xd2 h2 hDk)⟩
theorem XB {D N E M:Nat}{f:gp->Rat}(hf:∀ e,Fr E M (f e))(e:gp):∀ {a:List bz},(∀ p ∈ a,Fr D N p.2)->Fr (D*E) (a.length*(N*M)) (cv a f e)
 | [],_=>Fr.zero _ _
 | (d,y)::a,h=>by
  have h1:=(h (d,y) (Qj2 ..)).mul (hf (e.1-d.1,e.2.1-d.2.1,e.2.2-d.2.2));have h2:=XB hf e (a:=a) (fun p hp=>h p (Qg2 _ hp));refine(h1.add h2).mono ?_;rw[Qf1,Qr0];omega
end Fi.S
noncomputable section
namespace Fi.S
open Go Fi
set_option maxHeartbeats 8000000
def Fq (ks:List Int)(xs:List Sv):Prop:=∃ S M,1<=S/\1<=M/\iB S M ks xs
theorem Fq.two {ks:List Int}{x y:List Sv}:Fq ks x->Fq ks y->∃ S M,1<=S/\1<=M/\iB S M ks x/\iB S M ks y:=by
 rintro⟨S,M,h1,h2,h3⟩ ⟨T,N,k1,k2,k3⟩;exact⟨S+T,M+N,ae,ae,h3.mono ae ae,k3.mono ae ae⟩
theorem Fq.three {ks:List Int}{x y w:List Sv}(hx:Fq ks x)(hy:Fq ks y):Fq ks w->∃ S M,1<=S/\1<=M/\iB S M ks x/\iB S M ks y/\iB S M ks w:=by
 rintro⟨T,N,k1,k2,k3⟩;obtain⟨S,M,h1,h2,h3,h4⟩:=hx.two hy;exact⟨S+T,M+N,ae,ae,h3.mono ae ae,h4.mono ae ae,k3.mono ae ae⟩
theorem Oq {ks:List Int}(hs:∀ k ∈ ks,single k=true):Jl (Fq ks) (bO ks) bS (ks.map dP) (ks.map pM) where
 pz:=⟨1,1,ae,ae,nC ae hs⟩
 po:=⟨1,1,ae,ae,KC ae ae hs⟩
 pp h k:=by
  obtain⟨S,M,h1,h2,h3,h4⟩:=h.two k;exact⟨_,_,ae,ae,D8 h1 h1 hs h3 h4⟩
 pt h k:=by
  obtain⟨S,M,h1,h2,h3,h4⟩:=h.two k;exact⟨_,_,ae,Xg0 h2 h2,NT h1 h2 hs h3 h4⟩
 comm h k:=by
  obtain⟨S,M,h1,h2,h3,h4⟩:=h.two k;exact NU h1 hs h3 h4
 assoc h k l:=by
  obtain⟨S,M,h1,h2,h3,h4,h5⟩:=h.three k l;exact Ky h1 hs h3 h4 h5
 zero h:=by
  obtain⟨S,M,h1,h2,h3⟩:=h;exact DV h1 hs h3
 XA h k:=by
  obtain⟨S,M,h1,h2,h3,h4⟩:=h.two k;exact Kw h1 hs h3 h4
 afx h k l:=by
  obtain⟨S,M,h1,h2,h3,h4,h5⟩:=h.three k l;exact Ie h1 hs h3 h4 h5
 alk h:=by
  obtain⟨S,M,h1,h2,h3⟩:=h;exact NV h1 hs h3
 Qc h:=by
  obtain⟨S,M,h1,h2,h3⟩:=h;exact KA hs h3
 ait h k l:=by
  obtain⟨S,M,h1,h2,h3,h4,h5⟩:=h.three k l;exact Kz h1 hs h3 h4 h5
def Ot (D N:Nat):Sv->Prop
 | .q a=>Fr D N a
 | .p l=>∀ e,Fr D N (tot l e)
 | _=>True
def Fs (D N:Nat)(xs:List Sv):Prop:=∀ x ∈ xs,Ot D N x
theorem Ot.mono {D N M:Nat}{x:Sv}(h:Ot D N x)(hN:N<=M):Ot D M x:=by
 cases x with
 | q a=>exact Fr.mono h hN
 | p l=>exact fun e=>(h e).mono hN
 | c i n=>trivial
 | s u=>trivial
theorem Fs.mono {D N M:Nat}{x:List Sv}(h:Fs D N x)(hN:N<=M):Fs D M x:=fun y hy=>(h y hy).mono hN
theorem XC {k:Int}(hk:single k=true)(D N:Nat):Ot D N (dP k):=by
 rcases aQ hk with rfl|rfl|rfl|rfl|rfl
 ·exact Fr.zero D N
 ·trivial
 ·exact Fr.zero D N
 ·trivial
 ·exact fun e=>Fr.zero D N
theorem Iz {D N:Nat}(h:D<=N):Fr D N 1:=⟨D,by rw[Rat.one_mul];rfl,ae⟩
theorem zU (x:Rat)(e:gp):tot (cB x) e=if e=(0,0,0) then x else 0:=by
 unfold cB
 by_cases h:x=0
 ·rw[if_pos h];subst h;simp[tot]
 ·rw[if_neg h]
  by_cases he:e=(0,0,0)
  ·subst he;simp[tot,Rat.add_zero]
  ·have he':¬ (((0:Int),(0:Int),(0:Int))=e):=fun g=>he g.symm
   simp[tot,he,he',Rat.add_zero]
theorem abB {k:Int}(hk:single k=true){D N:Nat}(h:D<=N):Ot D N (pM k):=by
 rcases aQ hk with rfl|rfl|rfl|rfl|rfl
 ·exact Iz h
 ·trivial
 ·exact Iz h
 ·trivial
 ·intro e;show Fr D N (tot (cB 1) e);rw[zU];split
  ·exact Iz h
  ·exact Fr.zero _ _
theorem XD {k:Int}(hk:single k=true){S M D N N':Nat}{x y:Sv}(hx:x.of k S M)(hy:y.of k S M)(fx:Ot D N x)(fy:Ot D N' y):Ot D (N+N') (dJ k x y):=by
 rcases aQ hk with rfl|rfl|rfl|rfl|rfl
 ·obtain⟨a,rfl,_⟩:=xR hx;obtain⟨b,rfl,_⟩:=xR hy;exact Fr.add fx fy
 ·obtain⟨i,n,rfl,_⟩:=xS hx;obtain⟨j,m,rfl,_⟩:=xS hy;rw[RS];split<;>trivial
 ·obtain⟨a,rfl,_⟩:=xU hx;obtain⟨b,rfl,_⟩:=xU hy;rw[pl3];split
  ·exact Fr.mono fy ae
  ·exact Fr.mono fx ae
 ·obtain⟨u,rfl,_⟩:=xV hx;obtain⟨v,rfl,_⟩:=xV hy;trivial
 ·obtain⟨a,rfl,_⟩:=xW hx;obtain⟨b,rfl,_⟩:=xW hy;intro e;show Fr D _ (tot (gN a b) e);rw[j4];exact(fx e).add (fy e)
theorem Sr {k:Int}(hk:single k=true){S M S' M' D E N N':Nat}(hM:1<=M){x y:Sv}(hx:x.of k S M)(hy:y.of k S' M')(fx:Ot D N x)(fy:Ot E N' y):Ot (D*E) (M*(N*N')) (dz x y):=by
 have hMN:N*N'<=M*(N*N'):=Nat.le_mul_of_pos_left _ hM;rcases aQ hk with rfl|rfl|rfl|rfl|rfl
 ·obtain⟨a,rfl,_⟩:=xR hx;obtain⟨b,rfl,_⟩:=xR hy;exact(Fr.mul fx fy).mono hMN
 ·obtain⟨i,n,rfl,_⟩:=xS hx;obtain⟨j,m,rfl,_⟩:=xS hy;rw[WJ];split<;>trivial
 ·obtain⟨a,rfl,_⟩:=xU hx;obtain⟨b,rfl,_⟩:=xU hy;exact(Fr.mul fx fy).mono hMN
 ·obtain⟨u,rfl,_⟩:=xV hx;obtain⟨v,rfl,_⟩:=xV hy;trivial
 ·obtain⟨a,rfl,pa,la⟩:=xW hx;obtain⟨b,rfl,_⟩:=xW hy;intro e;show Fr _ _ (tot (iX a b) e);rw[mQ];split
  ·refine(XB (fun e=>fy e) e (fun p hp => ?_)).mono (Qf0 _ la);have:=fx p.1
   rwa [uO (jy pa.Nt) hp]at this
  ·exact Fr.zero _ _
theorem Ou {k:Int}(hk:single k=true){S M D N T:Nat}{x:Sv}(hx:x.of k S M)(fx:Ot D N x)(hD:0<D)(hDT:D<4294967296 ^ T)(hN:N<4294967296 ^ T):x.of k T 216:=by
 rcases aQ hk with rfl|rfl|rfl|rfl|rfl
 ·obtain⟨a,rfl,_⟩:=xR hx;exact⟨.inl rfl,Fr.qz hD fx hN hDT⟩
 ·obtain⟨i,n,rfl,h⟩:=xS hx;exact⟨rfl,h⟩
 ·obtain⟨a,rfl,h0,h1,_⟩:=xU hx;exact⟨.inr ⟨rfl,h0,h1⟩,Fr.qz hD fx hN hDT⟩
 ·obtain⟨u,rfl,h⟩:=xV hx;exact⟨rfl,h⟩
 ·obtain⟨a,rfl,pa,la⟩:=xW hx;refine⟨rfl,⟨pa.Nt,pa.nz,pa.fits,fun p hp => ?_⟩,pa.length⟩;have:=fx p.1;rw[uO (jy pa.Nt) hp]at this;exact Fr.qz hD this hN hDT
section lists
variable {ks:List Int} (hs:∀ k ∈ ks,single k=true) {D E N N' S M:Nat} {x y:List Sv}
include hs
theorem K7 (D N:Nat):Fs D N (ks.map dP):=fun y hy=>by
 obtain⟨k,hk,rfl⟩:=Qg1.1 hy;exact XC (hs k hk) D N
theorem abC (h:D<=N):Fs D N (ks.map pM):=fun y hy=>by
 obtain⟨k,hk,rfl⟩:=Qg1.1 hy;exact abB (hs k hk) h
theorem yB (hx:Fq ks x)(hy:Fq ks y)(fx:Fs D N x)(fy:Fs D N' y):Fs D (N+N') (bO ks x y):=by
 obtain⟨S,M,_,_,h3,h4⟩:=hx.two hy;intro w hw;obtain⟨i,hi⟩:=Xc1.1 hw;obtain⟨k,a,b,a1,a2,a3,rfl⟩:=g_ hi;exact XD (hs k (Qa2 a1)) (h3.2 i k a a1 a2) (h4.2 i k b a1 a3) (fx a (Qa2 a2)) (fy b (Qa2 a3))
theorem Su (hM:1<=M)(hx:iB S M ks x)(hy:Fq ks y)(fx:Fs D N x)(fy:Fs E N' y):Fs (D*E) (M*(N*N')) (bS x y):=by
 obtain⟨S',M',_,_,h3⟩:=hy;intro w hw;obtain⟨i,hi⟩:=Xc1.1 hw;obtain⟨a,b,a2,a3,rfl⟩:=eH hi;have hlt:i<ks.length:=by rw[<-hx.1];exact(aU a2)
 have a1:=Qa1 hlt;exact Sr (hs _ (Qa2 a1)) hM (hx.2 i _ a a1 a2) (h3.2 i _ b a1 a3) (fx a (Qa2 a2)) (fy b (Qa2 a3))
theorem yC {T:Nat}(hx:Fq ks x)(fx:Fs D N x)(hD:0<D)(hDT:D<4294967296 ^ T)(hN:N<4294967296 ^ T):iB T 216 ks x:=by
 obtain⟨S,M,_,_,h⟩:=hx;exact⟨h.1,fun i k a hk ha=>Ou (hs k (Qa2 hk)) (h.2 i k a hk ha) (fx a (Qa2 ha)) hD hDT hN⟩
end lists
theorem Em {a b:Int}{D c N:Nat}(hb:0<b)(hc:(c:Int)*b=D)(hN:a.natAbs*c<=N):Fr D N (su a b):=by
 refine⟨a*c,?_,by rw[Int.natAbs_mul];simpa using hN⟩;have hb0:(b:Rat)≠0:=by
  intro h;have:=Rat.intCast_inj.1 (h.trans rfl:(b:Rat)=((0:Int):Rat));omega
 have hD:(D:Rat)=(c:Rat)*(b:Rat):=by
  have:((D:Int):Rat)=(((c:Int)*b:Int):Rat):=by rw[hc]
  rw[Rat.intCast_mul,Rat.intCast_natCast,Rat.intCast_natCast]at this;exact this
 rw[UU a b ae,hD,Rat.intCast_mul,Rat.intCast_natCast];have:(a:Rat) / (b:Rat)*(b:Rat)=(a:Rat):=Rat.div_mul_cancel hb0;grind
theorem Qe (v:Int):Fr 6 36 (vk v):=by
 unfold vk;have h1:=Qp0 v (show(13:Int)≠0 by omega);have h2:=Qm0 v (show(0:Int)<13 by omega);have h3:=Qp0 (v.tdiv 13) (show(3:Int)≠0 by omega);have h4:=Qm0 (v.tdiv 13) (show(0:Int)<3 by omega);generalize v % 13=a,v.tdiv 13 % 3=b at*;have:b=0\/b=1\/b=2:=ae;rcases this with rfl|rfl|rfl
 ·exact Em (c:=6) ae ae ae
 ·exact Em (c:=3) ae ae ae
 ·exact Em (c:=2) ae ae ae
theorem XE (v:Int)(e:gp):Fr 6 64 (tot (AA v) e):=by
 have hc:∀ e,Fr 6 4 (tot (cB (su (v % 5-2) 3)) e):=fun e=>by
  rw[zU];split
  ·exact Em (c:=2) ae ae ae
  ·exact Fr.zero _ _
 unfold AA;split
 ·rw[j4,mQ];refine((hc e).add (M:=36) ?_).mono ae;split
  ·have:=XB (D:=1) (N:=1) (f:=tot (cB (vk v))) (E:=6) (M:=36) (fun e=>by
    rw[zU];split
    ·exact Qe v
    ·exact Fr.zero _ _) e (a:=[(iG ((v.tdiv 10) % 3).toNat,1)]) (fun p hp=>by
    rw[Q02]at hp;subst hp;exact Iz (Qe1 _))
   simpa using this
  ·exact Fr.zero _ _
 ·exact(hc e).mono ae
theorem K8 {k:Int}(hk:single k=true)(v:Int):Ot 6 64 (DD k v):=by
 rcases aQ hk with rfl|rfl|rfl|rfl|rfl
 ·exact(Qe v).mono ae
 ·show Ot 6 64 (if v % 11=10 then Sv.c true 0 else .c false (v % 11));split<;>trivial
 ·exact Em (c:=1) ae ae ae
 ·trivial
 ·exact XE v
theorem En {kk:Int}{ps:List Int}(h:aM kk ps=true)(v:Int):Fs 6 64 (tJ kk ps v):=by
 have hs:=aY h;unfold tJ dN at*;intro x hx
 by_cases h6:kk=6
 ·simp only[if_pos h6]at*;obtain⟨i,hi,rfl⟩:=Qg1.1 hx;have hi':=Xx1.1 hi;have hg:ps.getD i 0=ps[i]:=by rw[Qh1,Qa1 hi'];rfl
  rw[hg];exact K8 (hs _ (Qi2 hi')) _
 ·simp only[if_neg h6]at*;rw[Q02]at hx;subst hx;exact K8 (hs kk aC) v
end Fi.S
