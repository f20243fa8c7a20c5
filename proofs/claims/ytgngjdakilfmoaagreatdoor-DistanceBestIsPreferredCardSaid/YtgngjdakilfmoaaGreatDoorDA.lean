import Derived.Test.YtgngjdakilfmoaaGreatDoorCZ
set_option linter.unusedVariables false
set_option linter.unusedSimpArgs false
noncomputable section
namespace Fi.S
open Go Fi
section
structure EW {α:Type}(P:α->Prop)(pl tm:α->α->α)(z o:α):Prop where
 pz:P z
 po:P o
 pp:∀ {x y},P x->P y->P (pl x y)
 pt:∀ {x y},P x->P y->P (tm x y)
 comm:∀ {x y},P x->P y->pl x y=pl y x
 assoc:∀ {x y w},P x->P y->P w->pl (pl x y) w=pl x (pl y w)
 zero:∀ {x},P x->pl x z=x
 Gl:∀ {x y},P x->P y->tm x y=tm y x
 NN:∀ {x y w},P x->P y->P w->tm (tm x y) w=tm x (tm y w)
 abp:∀ {x},P x->tm x o=x
 Xl:∀ {x},P x->tm x z=z
 Xm:∀ {x y w},P x->P y->P w->tm x (pl y w)=pl (tm x y) (tm x w)
section
variable {α:Type} {P:α->Prop} {pl tm:α->α->α} {z o:α}
theorem EW.zl (A:EW P pl tm z o){x:α}(h:P x):pl z x=x:=by rw[A.comm A.pz h,A.zero h]
theorem EW.zt (A:EW P pl tm z o){x:α}(h:P x):tm z x=z:=by rw[A.Gl A.pz h,A.Xl h]
theorem EW.Xn (A:EW P pl tm z o){x y w:α}(hx:P x)(hy:P y)(hw:P w):tm (pl x y) w=pl (tm x w) (tm y w):=by
 rw[A.Gl (A.pp hx hy) hw,A.Xm hw hx hy,A.Gl hw hx,A.Gl hw hy]
def sm (pl:α->α->α)(z:α)(l:List α):α:=l.foldl pl z
variable (A:EW P pl tm z o)
include A
theorem xU:∀ {l:List α} {x:α},(∀ y ∈ l,P y)->P x->P (l.foldl pl x)/\l.foldl pl x=pl x (sm pl z l)
 | [],x,_,hx=>⟨hx,(A.zero hx).symm⟩
 | y::l,x,h,hx=>by
  have hy:=h y aC;have hl:∀ y ∈ l,P y:=fun y hy=>h y (by simp[hy])
  obtain⟨h1,h2⟩:=xU hl (A.pp hx hy);obtain⟨h3,h4⟩:=xU hl hy;have h5:P (sm pl z l):=(xU hl A.pz).1;refine⟨h1,?_⟩;rw[Ql1,h2];show _=pl x ((y::l).foldl pl z);rw[Ql1,A.zl hy,h4,A.assoc hx hy h5]
theorem zF {l:List α}(h:∀ y ∈ l,P y):P (sm pl z l):=(xU A h A.pz).1
theorem jZ {x:α}{l:List α}(hx:P x)(h:∀ y ∈ l,P y):sm pl z (x::l)=pl x (sm pl z l):=by
 show(x::l).foldl pl z=_;rw[Ql1,A.zl hx,(xU A h hx).2]
abbrev PA (P:α->Prop)(l:List (Ar α)):Prop:=∀ a ∈ l,P a.x
structure Add (P:α->Prop)(pl:α->α->α)(h:Ar α->α):Prop where
 p:∀ a,P a.x->P (h a)
 a:∀ a b,nJ a b->P a.x->P b.x->h (jg pl a b)=pl (h a) (h b)
omit A
abbrev KX (l:List (Ar α)):Prop:=l.Pairwise je
theorem Ef {x:Ar α}{l:List (Ar α)}{y:Ar α}(h:y ∈ bB pl x l):nJ y x\/∃ a ∈ l,nJ a y:=by
 have:=nK pl x (fun a=>a ∈ l) (fun y=>nJ y x\/∃ a ∈ l,nJ a y) (.inl ⟨rfl,rfl,rfl⟩) (fun y hy=>.inr ⟨y,hy,rfl,rfl,rfl⟩) (fun y hy=>.inr ⟨y,hy,rfl,rfl,rfl⟩) l (fun y hy=>hy);exact this y h
theorem Eg (x:Ar α):∀ {l:List (Ar α)},KX l->KX (bB pl x l)
 | [],_=>by simp[bB]
 | y::l,h=>by
  obtain⟨h1,h2⟩:=Qo0.1 h;unfold bB;split
  ·rename_i hl;refine Qo0.2 ⟨fun c hc => ?_,Eg x h2⟩;rcases Ef hc with hc|⟨a,ha,he⟩
   ·unfold je nJ at*;omega
   ·have:=h1 a ha;unfold je nJ at*;omega
  ·split
   ·exact Qo0.2 ⟨fun c hc=>h1 c hc,h2⟩
   ·rename_i hl he;have hxy:je x y:=by
     rcases jY y x with g|g|g
     ·exact absurd g hl
     ·exact absurd g he
     ·exact g
    refine Qo0.2 ⟨fun c hc => ?_,h⟩;rcases Qi1.1 hc with rfl|hc
    ·exact hxy
    ·exact RJ hxy (h1 c hc)
theorem KY (l:List (Ar α)):KX (dF pl l):=by
 have:∀ (l p:List (Ar α)),KX p->KX (l.foldl (fun p x=>bB pl x p) p):=by
  intro l
  induction l with
  | nil=>intro p hp;exact hp
  | cons x l ih=>intro p hp;exact ih _ (Eg x hp)
 exact this l [] List.Pairwise.nil
theorem Eh {x:Ar α}:∀ {l:List (Ar α)},∃ y ∈ bB pl x l,nJ y x
 | []=>⟨x,by simp[bB],rfl,rfl,rfl⟩
 | a::l=>by
  unfold bB;split
  ·obtain⟨y,h1,h2⟩:=Eh (l:=l);exact⟨y,by simp[h1],h2⟩
  ·split
   ·rename_i he;exact⟨jg pl a x,Qi2 ..,he⟩
   ·exact⟨x,aC,rfl,rfl,rfl⟩
theorem Az {x a:Ar α}:∀ {l:List (Ar α)},a ∈ l->∃ y ∈ bB pl x l,nJ y a
 | b::l,h=>by
  unfold bB;split
  ·rcases Qi1.1 h with rfl|h
   ·exact⟨a,aC,rfl,rfl,rfl⟩
   ·obtain⟨y,h1,h2⟩:=Az (x:=x) h;exact⟨y,by simp[h1],h2⟩
  ·split
   ·rcases Qi1.1 h with rfl|h
    ·exact⟨jg pl a x,Qi2 ..,rfl,rfl,rfl⟩
    ·exact⟨a,Qg2 _ h,rfl,rfl,rfl⟩
   ·exact⟨a,Qg2 _ h,rfl,rfl,rfl⟩
theorem qU {l:List (Ar α)}(c:Ar α):(∃ y ∈ dF pl l,nJ y c)↔∃ a ∈ l,nJ a c:=by
 have key:∀ (l p:List (Ar α)),(∃ y ∈ l.foldl (fun p x=>bB pl x p) p,nJ y c)↔(∃ a ∈ p,nJ a c)\/∃ a ∈ l,nJ a c:=by
  intro l
  induction l with
  | nil=>intro p;simp
  | cons x l ih =>
   intro p;rw[Ql1,ih];constructor
   ·rintro(⟨y,h1,h2⟩|⟨y,h1,h2⟩)
    ·rcases Ef h1 with h|⟨a,h3,h4⟩
     ·exact .inr ⟨x,aC,by unfold nJ at*;omega⟩
     ·exact .inl ⟨a,h3,by unfold nJ at*;omega⟩
    ·exact .inr ⟨y,by simp[h1],h2⟩
   ·rintro(⟨y,h1,h2⟩|⟨y,h1,h2⟩)
    ·obtain⟨w,h3,h4⟩:=Az (pl:=pl) (x:=x) h1;exact .inl ⟨w,h3,by unfold nJ at*;omega⟩
    ·rcases Qi1.1 h1 with rfl|h1
     ·obtain⟨w,h3,h4⟩:=Eh (pl:=pl) (x:=y) (l:=p);exact .inl ⟨w,h3,by unfold nJ at*;omega⟩
     ·exact .inr ⟨y,h1,h2⟩
 rw[show dF pl l=l.foldl (fun p x=>bB pl x p) [] from rfl,key];simp
theorem NP {l:List (Ar α)}(hs:KX l):dF pl l=l:=by
 have ins:∀ (p:List (Ar α)) (x:Ar α),(∀ y ∈ p,je y x)->bB pl x p=p++[x]:=by
  intro p x
  induction p with
  | nil=>intro _;rfl
  | cons y p ih =>
   intro h;rw[bB,if_pos (h y aC),ih (fun y hy=>h y (by simp[hy]))];rfl
 have:∀ (l p:List (Ar α)),KX (p++l)->l.foldl (fun p x=>bB pl x p) p=p++l:=by
  intro l
  induction l with
  | nil=>intro p _;simp
  | cons x l ih =>
   intro p h;have h1:=List.pairwise_append.1 h;rw[Ql1,ins p x (fun y hy=>h1.2.2 y hy x aC),ih _ (by simpa using h)];simp
 exact this l [] (by simpa using hs)
theorem R_ (dS:α->Bool)(l:List (Ar α)):KX (fB pl dS l):=(KY l).sublist List.filter_sublist
theorem NQ (dS:α->Bool)(l:List (Ar α)):fB pl dS (fB pl dS l)=fB pl dS l:=by
 show(dF pl (fB pl dS l)).filter (fun a => !dS a.x)=_;rw[NP (R_ dS l)];unfold fB;rw[List.filter_filter];simp
end
end
def Fr (D N:Nat)(x:Rat):Prop:=∃ n:Int,x*(D:Rat)=(n:Rat)/\n.natAbs<=N
theorem Fr.mono {D N M:Nat}{x:Rat}(h:Fr D N x)(hN:N<=M):Fr D M x:=by
 obtain⟨n,h1,h2⟩:=h;exact⟨n,h1,ae⟩
theorem Fr.zero (D N:Nat):Fr D N 0:=⟨0,by simp[Rat.zero_mul],aC⟩
theorem Fr.add {D N M:Nat}{x y:Rat}(h:Fr D N x)(k:Fr D M y):Fr D (N+M) (x+y):=by
 obtain⟨n,h1,h2⟩:=h;obtain⟨m,k1,k2⟩:=k;refine⟨n+m,?_,ae⟩;rw[Rat.add_mul,h1,k1,Rat.intCast_add]
theorem Fr.mul {D E N M:Nat}{x y:Rat}(h:Fr D N x)(k:Fr E M y):Fr (D*E) (N*M) (x*y):=by
 obtain⟨n,h1,h2⟩:=h;obtain⟨m,k1,k2⟩:=k;refine⟨n*m,?_,?_⟩
 ·rw[Rat.natCast_mul,Rat.intCast_mul,<-h1,<-k1];grind
 ·rw[Int.natAbs_mul];exact Q22 h2 k2
theorem PR (x:Rat):x*(x.den:Rat)=(x.num:Rat):=by
 have h:=Rat.num_divInt_den x;rw[Rat.divInt_eq_div]at h;have h0:((x.den:Int):Rat)≠0:=by
  intro h1;have h2:((x.den:Int):Rat)=((0:Int):Rat):=h1;have:=Rat.intCast_inj.1 h2;have:=x.den_nz;omega
 have h3:((x.num:Rat) / ((x.den:Int):Rat))*((x.den:Int):Rat)=(x.num:Rat):=Rat.div_mul_cancel h0;rw[h]at h3;exact h3
theorem Fr.of (x:Rat):Fr x.den x.num.natAbs x:=⟨x.num,PR x,Qd2 _⟩
theorem Fr.parts {D N:Nat}(hD:0<D){x:Rat}(h:Fr D N x):x.num.natAbs<=N/\x.den<=D:=by
 obtain⟨n,h1,h2⟩:=h;have hx:x.num*(D:Int)=n*(x.den:Int):=by
  have h3:(x.num:Rat)*(D:Rat)=(n:Rat)*(x.den:Rat):=by
   rw[<-h1,<-PR x];grind
  have h4:((x.num*(D:Int):Int):Rat)=((n*(x.den:Int):Int):Rat):=by
   rw[Rat.intCast_mul,Rat.intCast_mul,Rat.intCast_natCast,Rat.intCast_natCast];exact h3
  exact Rat.intCast_inj.1 h4
 have ha:x.num.natAbs*D=n.natAbs*x.den:=by
  have:=congrArg Int.natAbs hx;simpa[Int.natAbs_mul] using this
 have hc:Nat.Coprime x.den x.num.natAbs:=Nat.Coprime.symm x.reduced;have hd:x.den ∣ D:=hc.dvd_of_dvd_mul_left ⟨n.natAbs,by rw[ha,Qk2]⟩;obtain⟨c,rfl⟩:=hd;have hden:0<x.den:=Nat.pos_of_ne_zero x.den_nz;have hc0:0<c:=Nat.pos_of_mul_pos_left hD;have hn:x.num.natAbs*c=n.natAbs:=by
  refine Nat.eq_of_mul_eq_mul_right hden ?_;rw[<-ha,Q21,Qk2 c]
 refine⟨?_,Xl0 _ hc0⟩;have:=Xl0 x.num.natAbs hc0;omega
theorem Fr.qz {D N k:Nat}(hD:0<D){x:Rat}(h:Fr D N x)(hN:N<4294967296 ^ k)(hDk:D<4294967296 ^ k):qz x<=k:=by
 obtain⟨h1,h2⟩:=h.parts hD;exact Nat.max_le.2 ⟨vg (Xa2 h1 hN),vg (Xa2 h2 hDk)⟩
theorem acK {D N E M:Nat}{f:fV->Rat}(hf:∀ e,Fr E M (f e))(e:fV):∀ {a:List aS},(∀ p ∈ a,Fr D N p.2)->Fr (D*E) (a.length*(N*M)) (cv a f e)
 | [],_=>Fr.zero _ _
 | (d,y)::a,h=>by
  have h1:=(h (d,y) (Qi2 ..)).mul (hf (e.1-d.1,e.2.1-d.2.1,e.2.2-d.2.2));have h2:=acK hf e (a:=a) (fun p hp=>h p (Qg2 _ hp));refine(h1.add h2).mono ?_;rw[Qf2,Qq1];omega
end Fi.S
noncomputable section
namespace Fi.S
open Go Fi
set_option maxHeartbeats 8000000
def Ba (ks:List Int)(xs:List Sv):Prop:=∃ S M,1<=S/\1<=M/\ik S M ks xs
theorem Ba.two {ks:List Int}{x y:List Sv}:Ba ks x->Ba ks y->∃ S M,1<=S/\1<=M/\ik S M ks x/\ik S M ks y:=by
 rintro⟨S,M,h1,h2,h3⟩ ⟨T,N,k1,k2,k3⟩;exact⟨S+T,M+N,ae,ae,h3.mono ae ae,k3.mono ae ae⟩
theorem Ba.three {ks:List Int}{x y w:List Sv}(hx:Ba ks x)(hy:Ba ks y):Ba ks w->∃ S M,1<=S/\1<=M/\ik S M ks x/\ik S M ks y/\ik S M ks w:=by
 rintro⟨T,N,k1,k2,k3⟩;obtain⟨S,M,h1,h2,h3,h4⟩:=hx.two hy;exact⟨S+T,M+N,ae,ae,h3.mono ae ae,h4.mono ae ae,k3.mono ae ae⟩
theorem ah5 {ks:List Int}(hs:∀ k ∈ ks,single k=true):EW (Ba ks) (bT ks) bF (ks.map dO) (ks.map nH) where
 pz:=⟨1,1,ae,ae,kP ae hs⟩
 po:=⟨1,1,ae,ae,KD ae ae hs⟩
 pp h k:=by
  obtain⟨S,M,h1,h2,h3,h4⟩:=h.two k;exact⟨_,_,ae,ae,NF h1 h1 hs h3 h4⟩
 pt h k:=by
  obtain⟨S,M,h1,h2,h3,h4⟩:=h.two k;exact⟨_,_,ae,Xc0 h2 h2,DN h1 h2 hs h3 h4⟩
 comm h k:=by
  obtain⟨S,M,h1,h2,h3,h4⟩:=h.two k;exact Nv h1 hs h3 h4
 assoc h k l:=by
  obtain⟨S,M,h1,h2,h3,h4,h5⟩:=h.three k l;exact Kz h1 hs h3 h4 h5
 zero h:=by
  obtain⟨S,M,h1,h2,h3⟩:=h;exact v_ h1 hs h3
 Gl h k:=by
  obtain⟨S,M,h1,h2,h3,h4⟩:=h.two k;exact Ky h1 hs h3 h4
 NN h k l:=by
  obtain⟨S,M,h1,h2,h3,h4,h5⟩:=h.three k l;exact H5 h1 hs h3 h4 h5
 abp h:=by
  obtain⟨S,M,h1,h2,h3⟩:=h;exact Nw h1 hs h3
 Xl h:=by
  obtain⟨S,M,h1,h2,h3⟩:=h;exact KC hs h3
 Xm h k l:=by
  obtain⟨S,M,h1,h2,h3,h4,h5⟩:=h.three k l;exact KA h1 hs h3 h4 h5
def TJ (D N:Nat):Sv->Prop
 | .q a=>Fr D N a
 | .p l=>∀ e,Fr D N (tot l e)
 | _=>True
def PS (D N:Nat)(xs:List Sv):Prop:=∀ x ∈ xs,TJ D N x
theorem TJ.mono {D N M:Nat}{x:Sv}(h:TJ D N x)(hN:N<=M):TJ D M x:=by
 cases x with
 | q a=>exact Fr.mono h hN
 | p l=>exact fun e=>(h e).mono hN
 | c i n=>trivial
 | s u=>trivial
theorem PS.mono {D N M:Nat}{x:List Sv}(h:PS D N x)(hN:N<=M):PS D M x:=fun y hy=>(h y hy).mono hN
theorem Xo {k:Int}(hk:single k=true)(D N:Nat):TJ D N (dO k):=by
 rcases aN hk with rfl|rfl|rfl|rfl|rfl
 ·exact Fr.zero D N
 ·trivial
 ·exact Fr.zero D N
 ·trivial
 ·exact fun e=>Fr.zero D N
theorem Ij {D N:Nat}(h:D<=N):Fr D N 1:=⟨D,by rw[Rat.one_mul];rfl,ae⟩
theorem p8 (x:Rat)(e:fV):tot (bM x) e=if e=(0,0,0) then x else 0:=by
 unfold bM
 by_cases h:x=0
 ·rw[if_pos h];subst h;simp[tot]
 ·rw[if_neg h]
  by_cases he:e=(0,0,0)
  ·subst he;simp[tot,Rat.add_zero]
  ·have he':¬ (((0:Int),(0:Int),(0:Int))=e):=fun g=>he g.symm
   simp[tot,he,he',Rat.add_zero]
theorem abq {k:Int}(hk:single k=true){D N:Nat}(h:D<=N):TJ D N (nH k):=by
 rcases aN hk with rfl|rfl|rfl|rfl|rfl
 ·exact Ij h
 ·trivial
 ·exact Ij h
 ·trivial
 ·intro e;show Fr D N (tot (bM 1) e);rw[p8];split
  ·exact Ij h
  ·exact Fr.zero _ _
theorem Xp {k:Int}(hk:single k=true){S M D N N':Nat}{x y:Sv}(hx:x.of k S M)(hy:y.of k S M)(fx:TJ D N x)(fy:TJ D N' y):TJ D (N+N') (dn k x y):=by
 rcases aN hk with rfl|rfl|rfl|rfl|rfl
 ·obtain⟨a,rfl,_⟩:=zi hx;obtain⟨b,rfl,_⟩:=zi hy;exact Fr.add fx fy
 ·obtain⟨i,n,rfl,_⟩:=tC hx;obtain⟨j,m,rfl,_⟩:=tC hy;rw[RA];split<;>trivial
 ·obtain⟨a,rfl,_⟩:=tF hx;obtain⟨b,rfl,_⟩:=tF hy;rw[Y9];split
  ·exact Fr.mono fy ae
  ·exact Fr.mono fx ae
 ·obtain⟨u,rfl,_⟩:=yJ hx;obtain⟨v,rfl,_⟩:=yJ hy;trivial
 ·obtain⟨a,rfl,_⟩:=zk hx;obtain⟨b,rfl,_⟩:=zk hy;intro e;show Fr D _ (tot (fK a b) e);rw[jy];exact(fx e).add (fy e)
theorem NR {k:Int}(hk:single k=true){S M D N T:Nat}{x:Sv}(hx:x.of k S M)(fx:TJ D N x)(hD:0<D)(hDT:D<4294967296 ^ T)(hN:N<4294967296 ^ T):x.of k T 216:=by
 rcases aN hk with rfl|rfl|rfl|rfl|rfl
 ·obtain⟨a,rfl,_⟩:=zi hx;exact⟨.inl rfl,Fr.qz hD fx hN hDT⟩
 ·obtain⟨i,n,rfl,h⟩:=tC hx;exact⟨rfl,h⟩
 ·obtain⟨a,rfl,h0,h1,_⟩:=tF hx;exact⟨.inr ⟨rfl,h0,h1⟩,Fr.qz hD fx hN hDT⟩
 ·obtain⟨u,rfl,h⟩:=yJ hx;exact⟨rfl,h⟩
 ·obtain⟨a,rfl,pa,la⟩:=zk hx;refine⟨rfl,⟨pa.M7,pa.nz,pa.fits,fun p hp => ?_⟩,pa.length⟩;have:=fx p.1;rw[uH (jw pa.M7) hp]at this;exact Fr.qz hD this hN hDT
section lists
variable {ks:List Int} (hs:∀ k ∈ ks,single k=true) {D E N N' S M:Nat} {x y:List Sv}
include hs
theorem Xq (D N:Nat):PS D N (ks.map dO):=fun y hy=>by
 obtain⟨k,hk,rfl⟩:=Qg1.1 hy;exact Xo (hs k hk) D N
theorem abr (h:D<=N):PS D N (ks.map nH):=fun y hy=>by
 obtain⟨k,hk,rfl⟩:=Qg1.1 hy;exact abq (hs k hk) h
theorem Xr (hx:Ba ks x)(hy:Ba ks y)(fx:PS D N x)(fy:PS D N' y):PS D (N+N') (bT ks x y):=by
 obtain⟨S,M,_,_,h3,h4⟩:=hx.two hy;intro w hw;obtain⟨i,hi⟩:=Xi1.1 hw;obtain⟨k,a,b,a1,a2,a3,rfl⟩:=iq hi;exact Xp (hs k (Qa2 a1)) (h3.2 i k a a1 a2) (h4.2 i k b a1 a3) (fx a (Qa2 a2)) (fy b (Qa2 a3))
theorem abt {T:Nat}(hx:Ba ks x)(fx:PS D N x)(hD:0<D)(hDT:D<4294967296 ^ T)(hN:N<4294967296 ^ T):ik T 216 ks x:=by
 obtain⟨S,M,_,_,h⟩:=hx;exact⟨h.1,fun i k a hk ha=>NR (hs k (Qa2 hk)) (h.2 i k a hk ha) (fx a (Qa2 ha)) hD hDT hN⟩
end lists
theorem Ei {a b:Int}{D c N:Nat}(hb:0<b)(hc:(c:Int)*b=D)(hN:a.natAbs*c<=N):Fr D N (sw a b):=by
 refine⟨a*c,?_,by rw[Int.natAbs_mul];simpa using hN⟩;have hb0:(b:Rat)≠0:=by
  intro h;have:=Rat.intCast_inj.1 (h.trans rfl:(b:Rat)=((0:Int):Rat));omega
 have hD:(D:Rat)=(c:Rat)*(b:Rat):=by
  have:((D:Int):Rat)=(((c:Int)*b:Int):Rat):=by rw[hc]
  rw[Rat.intCast_mul,Rat.intCast_natCast,Rat.intCast_natCast]at this;exact this
 rw[UF a b ae,hD,Rat.intCast_mul,Rat.intCast_natCast];have:(a:Rat) / (b:Rat)*(b:Rat)=(a:Rat):=Rat.div_mul_cancel hb0;grind
theorem PT (v:Int):Fr 6 36 (u7 v):=by
 unfold u7;have h1:=Qo2 v (show(13:Int)≠0 by omega);have h2:=Qm1 v (show(0:Int)<13 by omega);have h3:=Qo2 (v.tdiv 13) (show(3:Int)≠0 by omega);have h4:=Qm1 (v.tdiv 13) (show(0:Int)<3 by omega);generalize v % 13=a,v.tdiv 13 % 3=b at*;have:b=0\/b=1\/b=2:=ae;rcases this with rfl|rfl|rfl
 ·exact Ei (c:=6) ae ae ae
 ·exact Ei (c:=3) ae ae ae
 ·exact Ei (c:=2) ae ae ae
theorem Xt (v:Int)(e:fV):Fr 6 64 (tot (Aj v) e):=by
 have hc:∀ e,Fr 6 4 (tot (bM (sw (v % 5-2) 3)) e):=fun e=>by
  rw[p8];split
  ·exact Ei (c:=2) ae ae ae
  ·exact Fr.zero _ _
 unfold Aj;split
 ·rw[jy,oz];refine((hc e).add (M:=36) ?_).mono ae;split
  ·have:=acK (D:=1) (N:=1) (f:=tot (bM (u7 v))) (E:=6) (M:=36) (fun e=>by
    rw[p8];split
    ·exact PT v
    ·exact Fr.zero _ _) e (a:=[(iG ((v.tdiv 10) % 3).toNat,1)]) (fun p hp=>by
    rw[Qx0]at hp;subst hp;exact Ij (Qd2 _))
   simpa using this
  ·exact Fr.zero _ _
 ·exact(hc e).mono ae
theorem KZ {k:Int}(hk:single k=true)(v:Int):TJ 6 64 (Dv k v):=by
 rcases aN hk with rfl|rfl|rfl|rfl|rfl
 ·exact(PT v).mono ae
 ·show TJ 6 64 (if v % 11=10 then Sv.c true 0 else .c false (v % 11));split<;>trivial
 ·exact Ei (c:=1) ae ae ae
 ·trivial
 ·exact Xt v
theorem xV {kk:Int}{ps:List Int}(h:aM kk ps=true)(v:Int):PS 6 64 (pW kk ps v):=by
 have hs:=bV h;unfold pW dG at*;intro x hx
 by_cases h6:kk=6
 ·simp only[if_pos h6]at*;obtain⟨i,hi,rfl⟩:=Qg1.1 hx;have hi':=Xw0.1 hi;have hg:ps.getD i 0=ps[i]:=by rw[Qj0,Qa1 hi'];rfl
  rw[hg];exact KZ (hs _ (Qi0 hi')) _
 ·simp only[if_neg h6]at*;rw[Qx0]at hx;subst hx;exact KZ (hs kk aC) v
end Fi.S
