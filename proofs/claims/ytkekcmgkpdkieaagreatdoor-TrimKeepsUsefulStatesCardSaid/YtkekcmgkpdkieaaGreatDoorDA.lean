import Derived.Test.YtkekcmgkpdkieaaGreatDoorCZ
set_option linter.unusedVariables false
set_option linter.unusedSimpArgs false
noncomputable section
namespace Fi.S
open Go Fi
section
structure Alg {α:Type}(P:α->Prop)(pl tm:α->α->α)(z o:α):Prop where
 pz:P z
 po:P o
 pp:∀ {x y},P x->P y->P (pl x y)
 pt:∀ {x y},P x->P y->P (tm x y)
 comm:∀ {x y},P x->P y->pl x y=pl y x
 assoc:∀ {x y w},P x->P y->P w->pl (pl x y) w=pl x (pl y w)
 zero:∀ {x},P x->pl x z=x
 aiB:∀ {x y},P x->P y->tm x y=tm y x
 aht:∀ {x y w},P x->P y->P w->tm (tm x y) w=tm x (tm y w)
 akm:∀ {x},P x->tm x o=x
 aiC:∀ {x},P x->tm x z=z
 akn:∀ {x y w},P x->P y->P w->tm x (pl y w)=pl (tm x y) (tm x w)
section
variable {α:Type} {P:α->Prop} {pl tm:α->α->α} {z o:α}
theorem Alg.zl (A:Alg P pl tm z o){x:α}(h:P x):pl z x=x:=by rw[A.comm A.pz h,A.zero h]
def sm (pl:α->α->α)(z:α)(l:List α):α:=l.foldl pl z
variable (A:Alg P pl tm z o)
include A
abbrev PA (P:α->Prop)(l:List (Ar α)):Prop:=∀ a ∈ l,P a.x
structure Add (P:α->Prop)(pl:α->α->α)(h:Ar α->α):Prop where
 p:∀ a,P a.x->P (h a)
 a:∀ a b,kV a b->P a.x->P b.x->h (iq pl a b)=pl (h a) (h b)
omit A
abbrev Yx (l:List (Ar α)):Prop:=l.Pairwise gP
theorem uH {x:Ar α}{l:List (Ar α)}{y:Ar α}(h:y ∈ bu pl x l):kV y x\/∃ a ∈ l,kV a y:=by
 have:=o9 pl x (fun a=>a ∈ l) (fun y=>kV y x\/∃ a ∈ l,kV a y) (.inl ⟨rfl,rfl,rfl⟩) (fun y hy=>.inr ⟨y,hy,rfl,rfl,rfl⟩) (fun y hy=>.inr ⟨y,hy,rfl,rfl,rfl⟩) l (fun y hy=>hy);exact this y h
theorem BP (x:Ar α):∀ {l:List (Ar α)},Yx l->Yx (bu pl x l)
 | [],_=>by simp[bu]
 | y::l,h=>by
  obtain⟨h1,h2⟩:=Qn2.1 h;unfold bu;split
  ·rename_i hl;refine Qn2.2 ⟨fun c hc => ?_,BP x h2⟩;rcases uH hc with hc|⟨a,ha,he⟩
   ·unfold gP kV at*;omega
   ·have:=h1 a ha;unfold gP kV at*;omega
  ·split
   ·exact Qn2.2 ⟨fun c hc=>h1 c hc,h2⟩
   ·rename_i hl he;have hxy:gP x y:=by
     rcases gY y x with g|g|g
     ·exact absurd g hl
     ·exact absurd g he
     ·exact g
    refine Qn2.2 ⟨fun c hc => ?_,h⟩;rcases Qg1.1 hc with rfl|hc
    ·exact hxy
    ·exact Ef hxy (h1 c hc)
theorem BQ {x:Ar α}:∀ {l:List (Ar α)},∃ y ∈ bu pl x l,kV y x
 | []=>⟨x,by simp[bu],rfl,rfl,rfl⟩
 | a::l=>by
  unfold bu;split
  ·obtain⟨y,h1,h2⟩:=BQ (l:=l);exact⟨y,by simp[h1],h2⟩
  ·split
   ·rename_i he;exact⟨iq pl a x,Qi0 ..,he⟩
   ·exact⟨x,aC,rfl,rfl,rfl⟩
theorem yQ {x a:Ar α}:∀ {l:List (Ar α)},a ∈ l->∃ y ∈ bu pl x l,kV y a
 | b::l,h=>by
  unfold bu;split
  ·rcases Qg1.1 h with rfl|h
   ·exact⟨a,aC,rfl,rfl,rfl⟩
   ·obtain⟨y,h1,h2⟩:=yQ (x:=x) h;exact⟨y,by simp[h1],h2⟩
  ·split
   ·rcases Qg1.1 h with rfl|h
    ·exact⟨iq pl a x,Qi0 ..,rfl,rfl,rfl⟩
    ·exact⟨a,Qf1 _ h,rfl,rfl,rfl⟩
   ·exact⟨a,Qf1 _ h,rfl,rfl,rfl⟩
theorem FT {l:List (Ar α)}(c:Ar α):(∃ y ∈ di pl l,kV y c)↔∃ a ∈ l,kV a c:=by
 have key:∀ (l p:List (Ar α)),(∃ y ∈ l.foldl (fun p x=>bu pl x p) p,kV y c)↔(∃ a ∈ p,kV a c)\/∃ a ∈ l,kV a c:=by
  intro l
  induction l with
  | nil=>intro p;simp
  | cons x l ih =>
   intro p;rw[Qp0,ih];constructor
   ·rintro(⟨y,h1,h2⟩|⟨y,h1,h2⟩)
    ·rcases uH h1 with h|⟨a,h3,h4⟩
     ·exact .inr ⟨x,aC,by unfold kV at*;omega⟩
     ·exact .inl ⟨a,h3,by unfold kV at*;omega⟩
    ·exact .inr ⟨y,by simp[h1],h2⟩
   ·rintro(⟨y,h1,h2⟩|⟨y,h1,h2⟩)
    ·obtain⟨w,h3,h4⟩:=yQ (pl:=pl) (x:=x) h1;exact .inl ⟨w,h3,by unfold kV at*;omega⟩
    ·rcases Qg1.1 h1 with rfl|h1
     ·obtain⟨w,h3,h4⟩:=BQ (pl:=pl) (x:=y) (l:=p);exact .inl ⟨w,h3,by unfold kV at*;omega⟩
     ·exact .inr ⟨y,h1,h2⟩
 rw[show di pl l=l.foldl (fun p x=>bu pl x p) [] from rfl,key];simp
end
end
def Fr (D N:Nat)(x:Rat):Prop:=∃ n:Int,x*(D:Rat)=(n:Rat)/\n.natAbs<=N
theorem Fr.mono {D N M:Nat}{x:Rat}(h:Fr D N x)(hN:N<=M):Fr D M x:=by
 obtain⟨n,h1,h2⟩:=h;exact⟨n,h1,ae⟩
theorem Fr.zero (D N:Nat):Fr D N 0:=⟨0,by simp[Rat.zero_mul],aC⟩
theorem Fr.add {D N M:Nat}{x y:Rat}(h:Fr D N x)(k:Fr D M y):Fr D (N+M) (x+y):=by
 obtain⟨n,h1,h2⟩:=h;obtain⟨m,k1,k2⟩:=k;refine⟨n+m,?_,ae⟩;rw[Rat.add_mul,h1,k1,Rat.intCast_add]
theorem Fr.mul {D E N M:Nat}{x y:Rat}(h:Fr D N x)(k:Fr E M y):Fr (D*E) (N*M) (x*y):=by
 obtain⟨n,h1,h2⟩:=h;obtain⟨m,k1,k2⟩:=k;refine⟨n*m,?_,?_⟩
 ·rw[Rat.natCast_mul,Rat.intCast_mul,<-h1,<-k1];grind
 ·rw[Int.natAbs_mul];exact Xb2 h2 k2
theorem MW (x:Rat):x*(x.den:Rat)=(x.num:Rat):=by
 have h:=Rat.num_divInt_den x;rw[Rat.divInt_eq_div]at h;have h0:((x.den:Int):Rat)≠0:=by
  intro h1;have h2:((x.den:Int):Rat)=((0:Int):Rat):=h1;have:=Rat.intCast_inj.1 h2;have:=x.den_nz;omega
 have h3:((x.num:Rat) / ((x.den:Int):Rat))*((x.den:Int):Rat)=(x.num:Rat):=Rat.div_mul_cancel h0;rw[h]at h3;exact h3
theorem Fr.of (x:Rat):Fr x.den x.num.natAbs x:=⟨x.num,MW x,Qd1 _⟩
theorem Fr.parts {D N:Nat}(hD:0<D){x:Rat}(h:Fr D N x):x.num.natAbs<=N/\x.den<=D:=by
 obtain⟨n,h1,h2⟩:=h;have hx:x.num*(D:Int)=n*(x.den:Int):=by
  have h3:(x.num:Rat)*(D:Rat)=(n:Rat)*(x.den:Rat):=by
   rw[<-h1,<-MW x];grind
  have h4:((x.num*(D:Int):Int):Rat)=((n*(x.den:Int):Int):Rat):=by
   rw[Rat.intCast_mul,Rat.intCast_mul,Rat.intCast_natCast,Rat.intCast_natCast];exact h3
  exact Rat.intCast_inj.1 h4
 have ha:x.num.natAbs*D=n.natAbs*x.den:=by
  have:=congrArg Int.natAbs hx;simpa[Int.natAbs_mul] using this
 have hc:Nat.Coprime x.den x.num.natAbs:=Nat.Coprime.symm x.reduced;have hd:x.den ∣ D:=hc.dvd_of_dvd_mul_left ⟨n.natAbs,by rw[ha,Qm1]⟩;obtain⟨c,rfl⟩:=hd;have hden:0<x.den:=Nat.pos_of_ne_zero x.den_nz;have hc0:0<c:=Nat.pos_of_mul_pos_left hD;have hn:x.num.natAbs*c=n.natAbs:=by
  refine Nat.eq_of_mul_eq_mul_right hden ?_;rw[<-ha,Q32,Qm1 c]
 refine⟨?_,Xk1 _ hc0⟩;have:=Xk1 x.num.natAbs hc0;omega
theorem Fr.qz {D N k:Nat}(hD:0<D){x:Rat}(h:Fr D N x)(hN:N<4294967296 ^ k)(hDk:D<4294967296 ^ k):qz x<=k:=by
 obtain⟨h1,h2⟩:=h.parts hD;exact Nat.max_le.2 ⟨yz (Q90 h1 hN),yz (Q90 h2 hDk)⟩
end Fi.S
noncomputable section
namespace Fi.S
open Go Fi
set_option maxHeartbeats 8000000
def GdL (ks:List Int)(xs:List Sv):Prop:=∃ S M,1<=S/\1<=M/\mK S M ks xs
theorem GdL.two {ks:List Int}{x y:List Sv}:GdL ks x->GdL ks y->∃ S M,1<=S/\1<=M/\mK S M ks x/\mK S M ks y:=by
 rintro⟨S,M,h1,h2,h3⟩ ⟨T,N,k1,k2,k3⟩;exact⟨S+T,M+N,ae,ae,h3.mono ae ae,k3.mono ae ae⟩
theorem GdL.three {ks:List Int}{x y w:List Sv}(hx:GdL ks x)(hy:GdL ks y):GdL ks w->∃ S M,1<=S/\1<=M/\mK S M ks x/\mK S M ks y/\mK S M ks w:=by
 rintro⟨T,N,k1,k2,k3⟩;obtain⟨S,M,h1,h2,h3,h4⟩:=hx.two hy;exact⟨S+T,M+N,ae,ae,h3.mono ae ae,h4.mono ae ae,k3.mono ae ae⟩
def FrS (D N:Nat):Sv->Prop
 | .q a=>Fr D N a
 | .p l=>∀ e,Fr D N (tot l e)
 | _=>True
def FrL (D N:Nat)(xs:List Sv):Prop:=∀ x ∈ xs,FrS D N x
theorem FrS.mono {D N M:Nat}{x:Sv}(h:FrS D N x)(hN:N<=M):FrS D M x:=by
 cases x with
 | q a=>exact Fr.mono h hN
 | p l=>exact fun e=>(h e).mono hN
 | c i n=>trivial
 | s u=>trivial
theorem FrL.mono {D N M:Nat}{x:List Sv}(h:FrL D N x)(hN:N<=M):FrL D M x:=fun y hy=>(h y hy).mono hN
section lists
variable {ks:List Int} (hs:∀ k ∈ ks,single k=true) {D E N N' S M:Nat} {x y:List Sv}
include hs
end lists
end Fi.S
