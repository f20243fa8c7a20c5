import Derived.Test.YtkekcmgkpdkieaaGreatDoorCY
import Derived.Test.YtkekcmgkpdkieaaGreatDoorDC
set_option linter.unusedVariables false
set_option linter.unusedSimpArgs false
noncomputable section
namespace Fi.S
open Go Fi
set_option maxHeartbeats 8000000
structure Inv (n:Nat)(to back:List Int):Prop where
 p:fT to n=true
 q:fT back n=true
 i:∀ i,i<n->∃ k,k<n/\to[i]?=some (k:Int)/\back[k]?=some (i:Int)
theorem Inv.symm {n:Nat}{to back:List Int}(h:Inv n to back):Inv n back to:=by
 refine⟨h.q,h.p,fun k hk => ?_⟩;obtain⟨i,hi⟩:=Qy1.1 (yY h.p k hk);have hil:i<n:=by rw[<-(eD h.p).1];exact(bD hi)
 obtain⟨k',_,h1,h2⟩:=h.i i hil;rw[hi]at h1;have:k=k':=by have:=Qo2 h1;omega
 subst this;exact⟨i,hil,h2,hi⟩
def at' (to:List Int)(x:Int):Int:=to.getD x.toNat 0
theorem Inv.at {n:Nat}{to back:List Int}(h:Inv n to back){x:Int}(hx:0<=x/\x<n):(0<=at' to x/\at' to x<n)/\at' back (at' to x)=x:=by
 obtain⟨k,hk,h1,h2⟩:=h.i x.toNat omK;have e1:at' to x=k:=by
  unfold at';rw[Qh1,h1];rfl
 have e2:at' back (k:Int)=x:=by
  unfold at';rw[Qh1,show((k:Int)).toNat=k by omega,h2];show(x.toNat:Int)=x;omega
 rw[e1];exact⟨by omega,e2⟩
section
variable {α:Type} {P:α->Prop} {pl tm:α->α->α} {z o:α} {n:Nat} {to back:List Int}
abbrev Wo (n:Nat)(l:List (Ar α)):Prop:=∀ a ∈ l,(0<=a.f/\a.f<n)/\(0<=a.t/\a.t<n)
theorem pX (h:Inv n to back){a:Ar α}(ha:(0<=a.f/\a.f<n)/\(0<=a.t/\a.t<n)):(0<=(a.via to).f/\(a.via to).f<n)/\(0<=(a.via to).t/\(a.via to).t<n):=⟨(h.at ha.1).1,(h.at ha.2).1⟩
theorem DJ (h:Inv n to back){a c:Ar α}(ha:(0<=a.f/\a.f<n)/\(0<=a.t/\a.t<n))(hc:(0<=c.f/\c.f<n)/\(0<=c.t/\c.t<n)):jw (a.via to) (c.via to)↔jw a c:=by
 show(at' to a.f=at' to c.f/\a.l=c.l/\at' to a.t=at' to c.t)↔(a.f=c.f/\a.l=c.l/\a.t=c.t);constructor
 ·rintro⟨h1,h2,h3⟩;refine⟨?_,h2,?_⟩
  ·rw[<-(h.at ha.1).2,h1,(h.at hc.1).2]
  ·rw[<-(h.at ha.2).2,h3,(h.at hc.2).2]
 ·rintro⟨h1,h2,h3⟩;rw[h1,h3];exact⟨rfl,h2,rfl⟩
theorem Hr (h:Inv n to back){a:Ar α}(ha:(0<=a.f/\a.f<n)/\(0<=a.t/\a.t<n)):(a.via to).via back=a:=by
 obtain⟨f,l,t,x⟩:=a;show(⟨at' back (at' to f),l,at' back (at' to t),x⟩:Ar α)=_;rw[(h.at ha.1).2,(h.at ha.2).2]
theorem Wp (fo:α->Bool){l:List (Ar α)}(hl:Wo n l):Wo n (fD pl fo l):=by
 intro a ha;obtain⟨b,hb,he⟩:=(jO (pl:=pl) a).1 ⟨a,(Qz1.1 ha).1,rfl,rfl,rfl⟩;obtain⟨e1,e2,e3⟩:=he;rw[<-e1,<-e3];exact hl b hb
theorem Ht (h:Inv n to back){c:Ar α}(hc:(0<=c.f/\c.f<n)/\(0<=c.t/\c.t<n)){l:List (Ar α)}(hl:Wo n l):(l.map (Ar.via to)).map (hAt z (c.via to))=l.map (hAt z c):=by
 rw[Q42];refine Xl0 fun a ha => ?_
 show hAt z (c.via to) (a.via to)=hAt z c a;unfold hAt
 by_cases he:jw a c
 ·rw[if_pos he,if_pos ((DJ h (hl a ha) hc).2 he)];rfl
 ·rw[if_neg he,if_neg (fun g=>he ((DJ h (hl a ha) hc).1 g))]
theorem Ng (A:Ha P pl tm z o){fo:α->Bool}(hz:∀ x,P x->fo x=true->x=z)(h:Inv n to back){l:List (Ar α)}(hl:PA P l)(hin:Wo n l) :
  fD pl fo ((fD pl fo (l.map (Ar.via to))).map (Ar.via back))=fD pl fo l:=by
 have hP1:PA P (l.map (Ar.via to)):=fun a ha=>by
  obtain⟨b,hb,rfl⟩:=Qg2.1 ha;exact hl b hb
 have hI1:Wo n (l.map (Ar.via to)):=fun a ha=>by
  obtain⟨b,hb,rfl⟩:=Qg2.1 ha;exact pX h (hin b hb)
 have hPL:PA P (fD pl fo (l.map (Ar.via to))):=fun a ha=>uo A hP1 a (Qz1.1 ha).1
 have hIL:Wo n (fD pl fo (l.map (Ar.via to))):=Wp fo hI1;have hP2:PA P ((fD pl fo (l.map (Ar.via to))).map (Ar.via back)):=fun a ha=>by
  obtain⟨b,hb,rfl⟩:=Qg2.1 ha;exact hPL b hb
 have hI2:Wo n ((fD pl fo (l.map (Ar.via to))).map (Ar.via back)):=fun a ha=>by
  obtain⟨b,hb,rfl⟩:=Qg2.1 ha;exact pX h.symm (hIL b hb)
 have hsum:∀ c:Ar α,(0<=c.f/\c.f<n)/\(0<=c.t/\c.t<n)->sm pl z (((fD pl fo (l.map (Ar.via to))).map (Ar.via back)).map (hAt z c))=sm pl z (l.map (hAt z c)):=fun c hc=>by
  have hc':=pX h hc;have e1:=Ht (z:=z) h.symm hc' hIL;rw[Hr h hc]at e1;rw[e1,FB A (A9 A (c.via to)) (fun a ha hi=>by
   unfold hAt;rw[hz _ ha hi];split<;>rfl) hP1,Ht h hc hin]
 refine Dv (FC fo _) (FC fo _) (fun c => ?_);show c ∈ (eQ pl _).filter _↔c ∈ (eQ pl _).filter _;rw[Qz1,Qz1,r9 A hP2,r9 A hl];constructor
 ·rintro⟨⟨⟨a,ha,he⟩,hx⟩,hi⟩;have hc:(0<=c.f/\c.f<n)/\(0<=c.t/\c.t<n):=by
   obtain⟨e1,e2,e3⟩:=he;rw[<-e1,<-e3];exact hI2 a ha
  refine⟨⟨?_,by rw[hx,hsum c hc]⟩,hi⟩;obtain⟨b,hb,rfl⟩:=Qg2.1 ha;obtain⟨y,hy,hy2⟩:=(jO (pl:=pl) b).1 ⟨b,(Qz1.1 hb).1,rfl,rfl,rfl⟩;obtain⟨x,hx2,rfl⟩:=Qg2.1 hy;refine⟨x,hx2,?_⟩;have g1:jw ((x.via to).via back) (b.via back):=(DJ h.symm (pX h (hin x hx2)) (hIL b hb)).2 hy2;rw[Hr h (hin x hx2)]at g1;unfold jw at*;omega
 ·rintro⟨⟨⟨a,ha,he⟩,hx⟩,hi⟩;have hc:(0<=c.f/\c.f<n)/\(0<=c.t/\c.t<n):=by
   obtain⟨e1,e2,e3⟩:=he;rw[<-e1,<-e3];exact hin a ha
  refine⟨⟨?_,by rw[hx,hsum c hc]⟩,hi⟩;obtain⟨y,hy,hy2⟩:=(jO (pl:=pl) (c.via to)).2 ⟨a.via to,List.mem_map_of_mem ha,(DJ h (hin a ha) hc).2 he⟩;have hyx:y.x=c.x:=by
   have g:=(r9 A hP1 y).1 hy;have:hAt z y=hAt z (c.via to):=by
    funext a
    unfold hAt;have:jw a y↔jw a (c.via to):=by unfold jw at*;omega
    simp[this]
   rw[g.2,this,Ht h hc hin,hx]
  have hyL:y ∈ fD pl fo (l.map (Ar.via to)):=Qz1.2 ⟨hy,by rw[hyx];exact hi⟩;refine⟨y.via back,List.mem_map_of_mem hyL,?_⟩;have g1:jw (y.via back) ((c.via to).via back):=(DJ h.symm (hIL y hyL) (pX h hc)).2 hy2;rw[Hr h hc]at g1;exact g1
theorem Kj (h:Inv n to back){xs:List α}(hx:xs.length=n):bJ z n back (bJ z n to xs n) n=xs:=by
 refine Xj1 fun i => ?_
 rcases Qg1 i n with hi|hi
 ·obtain⟨k,hk,h1,h2⟩:=h.i i hi;obtain⟨k1,g1,g2⟩:=nG (z:=z) h.p n (Qd1 _) omK i hi (xs:=xs);rw[h1]at g1;have:k=k1:=by have:=Qo2 g1;omega
  subst this;obtain⟨i1,g3,g4⟩:=nG (z:=z) h.q n (Qd1 _) (by rw[cO];omega) k hk (xs:=bJ z n to xs n);rw[h2]at g3;have:i=i1:=by have:=Qo2 g3;omega
  subst this;rw[g4,g2]
 ·rw[Qn2 (by rw[cO];exact hi),Qn2 omK]
theorem Wq (h:Inv n to back){xs:List α}(hx:xs.length=n)(z':α):bJ z n to xs n=bJ z' n to xs n:=by
 refine Xj1 fun k => ?_
 rcases Qg1 k n with hk|hk
 ·obtain⟨i,hi,h1,h2⟩:=h.symm.i k hk;obtain⟨k1,g1,g2⟩:=nG (z:=z) h.p n (Qd1 _) omK i hi (xs:=xs);obtain⟨k2,g3,g4⟩:=nG (z:=z') h.p n (Qd1 _) omK i hi (xs:=xs);rw[h2]at g1 g3;have:k=k1:=by have:=Qo2 g1;omega
  subst this;have:k=k2:=by have:=Qo2 g3;omega
  subst this;rw[g2,g4]
 ·rw[Qn2 (by rw[cO];exact hk),Qn2 (by rw[cO];exact hk)]
theorem O4 (h:Inv n to back){xs:List α}(hx:xs.length=n){s:Int}(hs:0<=s/\s<n):(bJ z n to xs n).getD (at' to s).toNat z=xs.getD s.toNat z:=by
 obtain⟨k,g1,g2⟩:=nG (z:=z) h.p n (Qd1 _) omK s.toNat omK (xs:=xs);have e1:(at' to s).toNat=k:=by
  unfold at';rw[Qh1,g1];show((k:Int)).toNat=k;omega
 rw[e1,Qh1,g2,<-Qh1]
theorem FK (h:Inv n to back){fin:List α}{l:List (Ar α)}(hf:fin.length=n)(hin:Wo n l):∀ (w:List Int) (s:Int),0<=s/\s<n->dM pl tm z (bJ z n to fin n) (l.map (Ar.via to)) w (at' to s)=dM pl tm z fin l w s
 | [],s,hs=>O4 h hf hs
 | x::r,s,hs=>by
  have ih:=FK h hf hin r;show(l.map (Ar.via to)).foldl _ z=l.foldl _ z;rw[List.foldl_map];have key:∀ (m:List (Ar α)) (acc:α),Wo n m->m.foldl (fun acc a=>if (a.via to).f=at' to s/\(a.via to).l=x then pl acc (tm (a.via to).x (dM pl tm z (bJ z n to fin n) (l.map (Ar.via to)) r (a.via to).t)) else acc) acc=m.foldl (fun acc a=>if a.f=s/\a.l=x then pl acc (tm a.x (dM pl tm z fin l r a.t)) else acc) acc:=by
   intro m
   induction m with
   | nil=>intro acc _;rfl
   | cons a m ih2 =>
    intro acc hm;have ha:=hm a (by simp);have e1:((a.via to).f=at' to s/\(a.via to).l=x)↔(a.f=s/\a.l=x):=by
     show(at' to a.f=at' to s/\a.l=x)↔_;constructor
     ·rintro⟨g1,g2⟩;exact⟨by rw[<-(h.at ha.1).2,g1,(h.at hs).2],g2⟩
     ·rintro⟨g1,g2⟩;exact⟨by rw[g1],g2⟩
    have e2:dM pl tm z (bJ z n to fin n) (l.map (Ar.via to)) r (a.via to).t=dM pl tm z fin l r a.t:=ih a.t ha.2;rw[Qm0,Qm0,e2];simp only[e1];exact ih2 _ (fun b hb=>hm b (by simp[hb]))
  exact key l z hin
theorem Nh (A:Ha P pl tm z o)(h:Inv n to back){aM fin:List α}{l:List (Ar α)}(hi:aM.length=n)(hf:fin.length=n)(pi:∀ x ∈ aM,P x)(pf:∀ x ∈ fin,P x)(hl:PA P l)(hin:Wo n l)(w:List Int) :
  su pl tm z (bJ z n to aM n) (bJ z n to fin n) (l.map (Ar.via to)) w=su pl tm z aM fin l w:=by
 let g:Nat->α:=fun i=>tm ((bJ z n to aM n).getD i z) (dM pl tm z (bJ z n to fin n) (l.map (Ar.via to)) w i)
 let g0:Nat->α:=fun i=>tm (aM.getD i z) (dM pl tm z fin l w i)
 have hl1:PA P (l.map (Ar.via to)):=fun a ha=>by
  obtain⟨b,hb,rfl⟩:=Qg2.1 ha;exact hl b hb
 have ai3:∀ (xs:List α) (i:Nat),(∀ x ∈ xs,P x)->P (xs.getD i z):=fun xs i hx=>by
  rw[Qh1];cases h:xs[i]? with
  | none=>exact A.pz
  | some x=>exact hx x (Qa2 h)
 have pg:∀ i,P (g i):=fun i=>A.pt (ai3 _ _ (fun x hx=>pi x (xE h.p hi x hx))) (Hg A (fun x hx=>pf x (xE h.p hf x hx)) hl1 w i)
 have e0:∀ (f:Nat->α) (m:List Nat),m.foldl (fun acc i=>pl acc (f i)) z=sm pl z (m.map f):=fun f m=>by
  unfold sm;rw[List.foldl_map]
 unfold su;rw[cO,hi];show(List.range n).foldl (fun acc i=>pl acc (g i)) z=(List.range n).foldl (fun acc i=>pl acc (g0 i)) z;rw[e0,e0];have e1:(List.range n).map g0=((List.range n).map fun i:Nat=>(at' to (i:Int)).toNat).map g:=by
  rw[Q42];refine Xl0 fun i hi' => ?_
  have hin':=Qz0.1 hi';have hs:0<=(i:Int)/\(i:Int)<n:=by omega
  show tm (aM.getD i z) (dM pl tm z fin l w i)=tm ((bJ z n to aM n).getD (at' to i).toNat z) (dM pl tm z (bJ z n to fin n) (l.map (Ar.via to)) w ((at' to i).toNat:Nat));have h1:=(h.at hs).1;rw[O4 h hi hs,show(((at' to i).toNat:Nat):Int)=at' to i by omega,FK h hf hin w i hs];rfl
 have hperm:((List.range n).map fun i:Nat=>(at' to (i:Int)).toNat).Perm (List.range n):=by
  refine(List.perm_ext_iff_of_nodup ?_ List.nodup_range).2 (fun a => ?_)
  ·refine List.Pairwise.map _ (fun a b hab=>hab) ?_;refine List.Pairwise.imp_of_mem (fun {a b} ha hb hab => ?_) (List.nodup_range (n:=n));intro he;have ha':=Qz0.1 ha;have hb':=Qz0.1 hb;have q1:=h.at (x:=(a:Int)) omK;have q2:=h.at (x:=(b:Int)) omK;have:at' to a=at' to b:=by omega
   have:(a:Int)=b:=by rw[<-q1.2,this,q2.2]
   exact hab omK
  ·rw[Qg2,Qz0];constructor
   ·rintro⟨i,hi',rfl⟩;have:=Qz0.1 hi';have q1:=h.at (x:=(i:Int)) omK;omega
   ·intro ha;have q1:=h.symm.at (x:=(a:Int)) omK;exact⟨(at' back a).toNat,Qz0.2 omK,by rw[show(((at' back a).toNat:Nat):Int)=at' back a by omega,q1.2];omega⟩
 rw[e1];exact(ZH A (hperm.map g) (fun y hy=>by
  obtain⟨i,_,rfl⟩:=Qg2.1 hy;exact pg i)).symm
end
end Fi.S
noncomputable section
namespace Fi.S
open Go Fi
set_option maxHeartbeats 8000000
def swp (p:List Int)(n:Nat)(to:List Int)(i:Nat):List Int :=
 let j:=(p.getD i 0 % (n:Int)).toNat
 (to.set i (to.getD j 0)).set j (to.getD i 0)
theorem DK {l:List Int}{n:Nat}(h1:l.length=n)(h2:∀ x ∈ l,0<=x/\x<(n:Int))(h3:l.Nodup):fT l n=true:=by
 unfold fT AY;simp only[Qb2,decide_eq_true_eq,Qf2];exact⟨by omega,h2,h3⟩
def iota (n:Nat):List Int:=(List.range n).map fun i:Nat=>(i:Int)
theorem DL (n:Nat):(iota n).length=n:=by simp[iota]
theorem O5 {n i:Nat}(h:i<n):(iota n)[i]?=some (i:Int):=by simp[iota,h]
theorem Q_ (n:Nat):iota (n+1)=iota n++[(n:Int)]:=by simp[iota,List.range_succ]
theorem Ra (n:Nat):fT (iota n) n=true:=by
 refine DK (DL n) (fun x hx => ?_) ?_
 ·obtain⟨i,hi,rfl⟩:=Qg2.1 hx;have:=Qz0.1 hi;omega
 ·rw[Qr0];unfold iota;rw[Xf1];refine List.Pairwise.imp (fun {a b} hab => ?_) List.pairwise_lt_range;omega
theorem Ni {l m:List Int}{n:Nat}(h:l.Perm m)(hm:fT m n=true):fT l n=true:=by
 obtain⟨h1,h2,h3⟩:=eD hm;exact DK (by rw[h.length_eq,h1]) (fun x hx=>h2 x (h.mem_iff.1 hx)) (h.nodup_iff.2 h3)
theorem Ws (p:List Int){n:Nat}{to:List Int}(h:fT to n=true){i:Nat}(hi:i<n):fT (swp p n to i) n=true:=by
 obtain⟨h1,_,_⟩:=eD h;have r1:=Qn0 (p.getD i 0) (show(n:Int)≠0 by omega);have r2:=Ql0 (p.getD i 0) (show 0<(n:Int) by omega);unfold swp;dsimp only;generalize p.getD i 0 % (n:Int)=x at*;have hx:x.toNat<to.length:=by omega
 have hi':i<to.length:=by omega
 refine Ni ?_ h;rw[Qh1,Qh1,Qa0 hx,Qa0 hi'];exact List.set_set_perm hi' hx
def iK (p:List Int)(n:Nat):Nat->List Int
 | 0=>iota n
 | j+1=>swp p n (iK p n j) j
theorem uq (p:List Int)(n:Nat):∀ j,j<=n->fT (iK p n j) n=true
 | 0,_=>Ra n
 | j+1,h=>Ws p (uq p n j omK) omK
theorem Kk {n:Nat}{to:List Int}(h:fT to n=true):Inv n to (bJ 0 n to (iota n) n):=by
 have key:∀ i,i<n->∃ k,k<n/\to[i]?=some (k:Int)/\(bJ (0:Int) n to (iota n) n)[k]?=some (i:Int):=fun i hi=>by
  obtain⟨k,h1,h2⟩:=nG (z:=(0:Int)) h n (Qd1 n) (by rw[DL];exact Qd1 n) i hi (xs:=iota n);rw[O5 hi]at h2;have:=(eD h).2.1 k (Qa2 h1);exact⟨k,by omega,h1,h2⟩
 have at_:∀ k,k<n->∃ i,i<n/\to[i]?=some (k:Int)/\(bJ (0:Int) n to (iota n) n)[k]?=some (i:Int):=fun k hk=>by
  obtain⟨i,hi⟩:=Qy1.1 (yY h k hk);have hil:i<n:=by rw[<-(eD h).1];exact(bD hi)
  obtain⟨k',_,h1,h2⟩:=key i hil;rw[hi]at h1;have:k=k':=by have:=Qo2 h1;omega
  subst this;exact⟨i,hil,hi,h2⟩
 refine⟨h,DK (cO _ _ _ _ _) (fun x hx => ?_) ?_,key⟩
 ·obtain⟨k,hk⟩:=Qy1.1 hx;have hkl:k<n:=by rw[<-cO (0:Int) n to (iota n) n];exact(bD hk)
  obtain⟨i,hi,_,h2⟩:=at_ k hkl;rw[hk]at h2;have:=Qo2 h2;omega
 ·rw[Qr0,Xe2];intro a b ha hb hab he;rw[cO]at ha hb;obtain⟨i,hi,g1,g2⟩:=at_ a ha;obtain⟨j,hj,g3,g4⟩:=at_ b hb;rw[Qa0 (by rw[cO];exact ha)]at g2;rw[Qa0 (by rw[cO];exact hb)]at g4;have e1:=Qo2 g2;have e2:=Qo2 g4;have:i=j:=by omega
  subst this;rw[g1]at g3;have:=Qo2 g3;omega
end Fi.S
noncomputable section
namespace Fi.S
open Go Fi
set_option maxHeartbeats 8000000
set_option maxRecDepth 10000
theorem agf (l:List Int)(i:Nat):Ca E1 1031 [.d (.s 1 (LK .i64 l)),.d (.v (.int .i64 i))] (.d (.v (.int .i64 (l.getD i 0))),none):=by
 have n1:(LK .i64 l).length=l.length:=by simp[LK]
 have i0:(0:Int)<=(i:Int):=by omega
 refine Ca.bO (n:=100) ?_;rw[av rfl (k1031:E1.fn _=_) rfl];rw[Qh1];cases h:l[i]? with
 | some v =>
  have hi:=(bD h)
  have e1:(LK .i64 l)[i]?=some (.v (.int .i64 v)):=by simp[LK,h]
  have hic:(i:Int)<(l.length:Int):=by omega
  generalize LK .i64 l=l8 at*;have i1:=idx e1;simp -implicitDefEqProofs[f1031,n1,e1,i1,hi,hic,i0]
 | none =>
  have hi:l.length<=i:=by simpa using h
  have hic:¬ (i:Int)<(l.length:Int):=by omega
  generalize LK .i64 l=l8 at*;simp -implicitDefEqProofs[f1031,n1,hic]
def pV (pm wd:List D)(v8 v9 v10 v12 v13 v21 v22 v23:FV):List FV:=[.u,.u,.d (.s 1 pm),.d (.s 1 wd),.u,.u,.u,.r (.loc 2) 0,v8,v9,v10,.u,v12,v13,.u,.u,.u,.u,.u,.u,.u,v21,v22,v23,.u]
def pL0:aG:=f1008.body.r.r.r.r.r.l.r.bl.lp
def p8 (j:Nat):FV:=if j=0 then .d (.n 1) else .ls (.loc 3) (j-1) 1 0 j
def pH (H:List ae)(j:Nat)(es:List D):List ae:=if j=0 then H else H++[.row (j-1) 1 es]
theorem Wu (pm wd:List D)(M R:ae)(kk:Int)(ps:List Int)(sy:Int)(n:Nat)(aM fin ak:List D)(hn:n<=64)(j:Nat)(hj:j<n)(es:List D)(he:es.length=j) :
  Ex E1 pL0 {vars:=pV pm wd (p8 j) (.d (.v (.int .i64 j))) .u .u .u .u .u .u,base:=[],loc:=pH [M,R,aD kk ps sy n aM fin ak] j es,aP:=false}
   (.norm,{vars:=pV pm wd (p8 (j+1)) (.d (.v (.int .i64 ((j+1:Nat):Int)))) .u .u .u .u .u .u,base:=[],loc:=pH [M,R,aD kk ps sy n aM fin ak] (j+1) (es++[.v (.int .i64 j)]),aP:=false}):=by
 have hjn:(j:Int)<(n:Int):=by omega
 have hw:ah .i64 ((j:Int)+1)=(j:Int)+1:=wrap_i64 omK;have hj1:((j+1:Nat):Int)=(j:Int)+1:=by omega
 refine Ex.of (n:=200) ?_;unfold p8 pH pV aD;rw[if_neg (show ¬ j+1=0 by omega),if_neg (show ¬ j+1=0 by omega),hj1,Q12];generalize LK .i64 ps=l9 at*;cases j with
 | zero =>
  have e1:es=[]:=Xg1.1 he;subst e1;have z0:((0:Nat):Int)=0:=rfl;rw[z0]at hw hjn ⊢;rw[if_pos rfl,if_pos rfl];simp (maxSteps:=400000) -implicitDefEqProofs[pL0,f1008,hw,hj,hjn,MQ,most]
 | succ k =>
  have hk:((k+1:Nat):Int)=(k:Int)+1:=by omega
  rw[if_neg (show ¬ k+1=0 by omega),if_neg (show ¬ k+1=0 by omega),Q12];rw[hk]at hw hjn ⊢;have tk1:es.take (k+1)=es:=Qg0 omK;have m1:(k+1+1)*8<=1099511627776:=by omega
  have m2:k+1+1<=1099511627776:=by omega
  simp (maxSteps:=400000) -implicitDefEqProofs[pL0,f1008,hw,hj,hjn,he,tk1,most,m1,m2]
theorem ZR (pm wd:List D)(M R:ae)(kk:Int)(ps:List Int)(sy:Int)(n:Nat)(aM fin ak:List D)(hn:0<n)(es:List D) :
  Ex E1 pL0 {vars:=pV pm wd (p8 n) (.d (.v (.int .i64 n))) .u .u .u .u .u .u,base:=[],loc:=pH [M,R,aD kk ps sy n aM fin ak] n es,aP:=false}
   (.exit 0,{vars:=pV pm wd (p8 n) (.d (.v (.int .i64 n))) .u .u .u (.d (.v (.bool false))) .u .u,base:=[],loc:=pH [M,R,aD kk ps sy n aM fin ak] n es,aP:=false}):=by
 refine Ex.of (n:=100) ?_;unfold p8 pH pV aD;rw[if_neg (show ¬ n=0 by omega),if_neg (show ¬ n=0 by omega)];generalize LK .i64 ps=l9 at*;simp (maxSteps:=400000) -implicitDefEqProofs[pL0,f1008]
def pL1:aG:=f1008.body.r.r.r.r.r.r.l.r.bl.lp
def O6 (p:List Int)(wd:List D)(H:List ae)(n:Nat)(to:List Int)(i:Nat)(t:FV):St :=
 {vars:=pV (LK .i64 p) wd (.ls (.loc 3) (n-1) 1 0 n) .u (.d (.v (.int .i64 i))) .u .u .u t .u,base:=[],loc:=H++[.row (n-1) 1 (LK .i64 to)],aP:=false}
theorem Wv (p:List Int)(hp:∀ x ∈ p,d_ x)(wd:List D)(M R:ae)(kk:Int)(ps:List Int)(sy:Int)(n:Nat)(aM fin ak:List D)(hn:n<=64)(i:Nat)(hi:i<n)(to:List Int)(ht:to.length=n) :
  Ex E1 pL1 (O6 p wd [M,R,aD kk ps sy n aM fin ak] n to i .u) (.norm,O6 p wd [M,R,aD kk ps sy n aM fin ak] n (swp p n to i) (i+1) .u):=by
 have hx:d_ (p.getD i 0):=by
  rw[Qh1];cases h:p[i]? with
  | none=>show d_ 0;unfold d_;omega
  | some v=>exact hp v (Qa2 h)
 obtain⟨K,hK,t1,t2⟩:=((agf p i).j ((Ca.fP (iW (p.getD i 0) n hx omK omK)).any)).at 0;unfold swp;have r1:=Qn0 (p.getD i 0) (show(n:Int)≠0 by omega);have r2:=Ql0 (p.getD i 0) (show 0<(n:Int) by omega);generalize p.getD i 0=x at*;obtain⟨j,hj⟩:∃ j:Nat,(j:Int)=x % n:=⟨(x % n).toNat,by omega⟩
 rw[<-hj]at t2 ⊢;have hjn:j<n:=by omega
 rw[show((j:Int)).toNat=j by omega];clear r1 r2 hx hj hK;have gt:∀ u,u<n->(LK .i64 to)[u]?=some (.v (.int .i64 (to.getD u 0))):=fun u hu=>by
  have:to[u]?=some (to.getD u 0):=by
   rw[Qh1,Qa0 (show u<to.length by omega)];rfl
  unfold LK;rw[Qb1,this];rfl
 have g1:=gt i hi;have g2:=gt j hjn;clear gt;have g3:LK .i64 ((to.set i (to.getD j 0)).set j (to.getD i 0))=((LK .i64 to).set i (.v (.int .i64 (to.getD j 0)))).set j (.v (.int .i64 (to.getD i 0))):=by simp[LK,Qz2]
 have hl:(LK .i64 to).length=n:=by simp[LK,ht]
 refine Ex.of (n:=K+300) ?_;unfold O6 pV aD;rw[g3];generalize to.getD i 0=a,to.getD j 0=b,LK .i64 to=es,LK .i64 p=l1 at*;generalize LK .i64 ps=l9 at*;have i1:=idx g1;have i2:=idx g2;have g4:(es.set i (.v (.int .i64 b)))[j]?=some (.v (.int .i64 b)):=by
  by_cases he:i=j
  ·rw[<-he,Qf0 omK]
  ·rw[Qd0 he,g2]
 have i4:=idx g4;have hi1:((i+1:Nat):Int)=(i:Int)+1:=by omega
 have hw:ah .i64 ((i:Int)+1)=(i:Int)+1:=wrap_i64 omK;have c1:(i:Int)<(n:Int):=by omega
 have c2:(j:Int)<(n:Int):=by omega
 have c3:(0:Int)<=(i:Int):=by omega
 have c4:(0:Int)<=(j:Int):=by omega
 rw[hi1];simp (maxSteps:=400000) -implicitDefEqProofs[pL1,f1008,t1,t2,g1,g2,i1,i2,g4,i4,hl,hw,hi,hjn,c1,c2,c3,c4]
theorem ZT (p:List Int)(wd:List D)(M R:ae)(kk:Int)(ps:List Int)(sy:Int)(n:Nat)(aM fin ak:List D)(to:List Int) :
  Ex E1 pL1 (O6 p wd [M,R,aD kk ps sy n aM fin ak] n to n .u) (.exit 2,O6 p wd [M,R,aD kk ps sy n aM fin ak] n to n (.d (.v (.bool false)))):=by
 refine Ex.of (n:=100) ?_;unfold O6 pV aD;generalize LK .i64 ps=l9 at*;simp (maxSteps:=400000) -implicitDefEqProofs[pL1,f1008]
def pL2:aG:=f1008.body.r.r.r.r.r.r.r.r.l.r.bl.lp
def O7 (wd:List D)(H:List ae)(n:Nat)(to bk:List Int)(i:Nat)(t:FV):St :=
 {vars:=(pV [] wd (.ls (.loc 3) (n-1) 1 0 n) .u .u (.ls (.loc 4) 0 1 0 n) (.d (.v (.int .i64 i))) .u .u t).set 2 .u,base:=[],loc:=H++[.row (n-1) 1 (LK .i64 to),.row 0 1 (LK .i64 bk)],aP:=false}
theorem Ww (wd:List D)(M R:ae)(kk:Int)(ps:List Int)(sy:Int)(n:Nat)(aM fin ak:List D)(hn:n<=64)(i k:Nat)(hi:i<n)(to bk:List Int)(ht:to.length=n)(hb:bk.length=n)(hk:to[i]?=some (k:Int))(hkn:k<n) :
  Ex E1 pL2 (O7 wd [M,R,aD kk ps sy n aM fin ak] n to bk i .u) (.norm,O7 wd [M,R,aD kk ps sy n aM fin ak] n to (bk.set k i) (i+1) .u):=by
 have g1:(LK .i64 to)[i]?=some (.v (.int .i64 k)):=by simp[LK,hk]
 have g3:LK .i64 (bk.set k i)=(LK .i64 bk).set k (.v (.int .i64 i)):=by simp[LK,Qz2]
 have hl:(LK .i64 to).length=n:=by simp[LK,ht]
 have hl2:(LK .i64 bk).length=n:=by simp[LK,hb]
 obtain⟨o,g2⟩:∃ o:Int,(LK .i64 bk)[k]?=some (.v (.int .i64 o)):=by
  refine⟨bk.getD k 0,?_⟩;have:bk[k]?=some (bk.getD k 0):=by
   rw[Qh1,Qa0 (show k<bk.length by omega)];rfl
  unfold LK;rw[Qb1,this];rfl
 refine Ex.of (n:=300) ?_;unfold O7 pV aD;rw[g3];generalize LK .i64 to=es,LK .i64 bk=fs,LK .i64 ps=l9 at*;have i1:=idx g1;have i2:=idx g2;have hi1:((i+1:Nat):Int)=(i:Int)+1:=by omega
 have hw:ah .i64 ((i:Int)+1)=(i:Int)+1:=wrap_i64 omK;have c1:(i:Int)<(n:Int):=by omega
 have c2:(k:Int)<(n:Int):=by omega
 have c3:(0:Int)<=(i:Int):=by omega
 have c4:(0:Int)<=(k:Int):=by omega
 rw[hi1];simp (maxSteps:=400000) -implicitDefEqProofs[pL2,f1008,g1,i1,g2,i2,hl,hl2,hw,hi,hkn,c1,c2,c3,c4]
theorem ZU (wd:List D)(M R:ae)(kk:Int)(ps:List Int)(sy:Int)(n:Nat)(aM fin ak:List D)(to bk:List Int) :
  Ex E1 pL2 (O7 wd [M,R,aD kk ps sy n aM fin ak] n to bk n .u) (.exit 4,O7 wd [M,R,aD kk ps sy n aM fin ak] n to bk n (.d (.v (.bool false)))):=by
 refine Ex.of (n:=100) ?_;unfold O7 pV aD;generalize LK .i64 ps=l9 at*;simp (maxSteps:=400000) -implicitDefEqProofs[pL2,f1008]
end Fi.S
noncomputable section
namespace Fi.S
open Go Fi
set_option maxHeartbeats 8000000
set_option maxRecDepth 10000
theorem ZV (j:Nat):LK .i64 (iota (j+1))=LK .i64 (iota j)++[.v (.int .i64 j)]:=by rw[Q_];simp[LK]
theorem Kl (j:Nat):(LK .i64 (iota j)).length=j:=by simp[LK,DL]
theorem ZW (pm wd:List D)(M R:ae)(kk:Int)(ps:List Int)(sy:Int)(n:Nat)(aM fin ak:List D)(hn0:0<n)(hn:n<=64) :
  Ex E1 (.loop pL0) {vars:=pV pm wd (p8 0) (.d (.v (.int .i64 (0:Nat)))) .u .u .u .u .u .u,base:=[],loc:=pH [M,R,aD kk ps sy n aM fin ak] 0 (LK .i64 (iota 0)),aP:=false}
   (.exit 0,{vars:=pV pm wd (p8 n) (.d (.v (.int .i64 n))) .u .u .u (.d (.v (.bool false))) .u .u,base:=[],loc:=pH [M,R,aD kk ps sy n aM fin ak] n (LK .i64 (iota n)),aP:=false}):=by
 obtain⟨r,h1,h2⟩:=Ex.inv (E:=E1) (b:=pL0) (fun j:Nat=>({vars:=pV pm wd (p8 j) (.d (.v (.int .i64 j))) .u .u .u .u .u .u,base:=[],loc:=pH [M,R,aD kk ps sy n aM fin ak] j (LK .i64 (iota j)),aP:=false}:St)) (fun j=>n-j) (fun j=>j<=n)
  (fun r=>r=(.exit 0,{vars:=pV pm wd (p8 n) (.d (.v (.int .i64 n))) .u .u .u (.d (.v (.bool false))) .u .u,base:=[],loc:=pH [M,R,aD kk ps sy n aM fin ak] n (LK .i64 (iota n)),aP:=false})) (fun j hj=>by
   rcases Qg1 j n with h|h
   ·refine Or.inl ⟨j+1,?_,by omega,by omega⟩;have:=Wu pm wd M R kk ps sy n aM fin ak hn j h (LK .i64 (iota j)) (Kl j);rw[<-ZV]at this;exact this
   ·obtain rfl:j=n:=by omega
    exact Or.inr ⟨_,ZR pm wd M R kk ps sy j aM fin ak hn0 (LK .i64 (iota j)),by simp,rfl⟩) 0 omK
 exact h2 ▸ h1
theorem ZX (p:List Int)(hp:∀ x ∈ p,d_ x)(wd:List D)(M R:ae)(kk:Int)(ps:List Int)(sy:Int)(n:Nat)(aM fin ak:List D)(hn:n<=64) :
  Ex E1 (.loop pL1) (O6 p wd [M,R,aD kk ps sy n aM fin ak] n (iK p n 0) 0 .u) (.exit 2,O6 p wd [M,R,aD kk ps sy n aM fin ak] n (iK p n n) n (.d (.v (.bool false)))):=by
 obtain⟨r,h1,h2⟩:=Ex.inv (E:=E1) (b:=pL1) (fun j:Nat=>O6 p wd [M,R,aD kk ps sy n aM fin ak] n (iK p n j) j .u) (fun j=>n-j) (fun j=>j<=n)
  (fun r=>r=(.exit 2,O6 p wd [M,R,aD kk ps sy n aM fin ak] n (iK p n n) n (.d (.v (.bool false))))) (fun j hj=>by
   rcases Qg1 j n with h|h
   ·exact Or.inl ⟨j+1,Wv p hp wd M R kk ps sy n aM fin ak hn j h (iK p n j) (eD (uq p n j hj)).1,by omega,by omega⟩
   ·obtain rfl:j=n:=by omega
    exact Or.inr ⟨_,ZT p wd M R kk ps sy j aM fin ak (iK p j j),by simp,rfl⟩) 0 omK
 exact h2 ▸ h1
theorem ZY (wd:List D)(M R:ae)(kk:Int)(ps:List Int)(sy:Int)(n:Nat)(aM fin ak:List D)(hn:n<=64)(to:List Int)(ht:fT to n=true) :
  Ex E1 (.loop pL2) (O7 wd [M,R,aD kk ps sy n aM fin ak] n to (bJ 0 n to (iota n) 0) 0 .u) (.exit 4,O7 wd [M,R,aD kk ps sy n aM fin ak] n to (bJ 0 n to (iota n) n) n (.d (.v (.bool false)))):=by
 obtain⟨r,h1,h2⟩:=Ex.inv (E:=E1) (b:=pL2) (fun j:Nat=>O7 wd [M,R,aD kk ps sy n aM fin ak] n to (bJ 0 n to (iota n) j) j .u) (fun j=>n-j) (fun j=>j<=n)
  (fun r=>r=(.exit 4,O7 wd [M,R,aD kk ps sy n aM fin ak] n to (bJ 0 n to (iota n) n) n (.d (.v (.bool false))))) (fun j hj=>by
   rcases Qg1 j n with h|h
   ·obtain⟨k,hk,h1,_⟩:=(Kk ht).i j h;have:=Ww wd M R kk ps sy n aM fin ak hn j k h to (bJ 0 n to (iota n) j) (eD ht).1 (cO _ _ _ _ _) h1 hk;rw[<-um h1 (O5 h)]at this;exact Or.inl ⟨j+1,this,by omega,by omega⟩
   ·obtain rfl:j=n:=by omega
    exact Or.inr ⟨_,ZU wd M R kk ps sy j aM fin ak to _,by simp,rfl⟩) 0 omK
 exact h2 ▸ h1
def Nj (st:Int)(li lf la:List Int)(em:Bool):ae:=.box [.d (.v (.int .i64 st)),.d (.s 1 (LK .i64 li)),.d (.s 1 (LK .i64 lf)),.d (.s 1 (LK .i64 la)),.d (.v (.bool em))]
theorem Nk (aw:Ca E1 1011 [] (.d (.v (.bool true)),none))(k:Int)(em:Bool)(st:Int)(li lf la p word x:List Int)(hp:∀ y ∈ p,d_ y)(kk:Int)(ps:List Int)(n:Nat)(hn0:0<n)(hn:n<=64)(aM fin es:List D)
  (B N:D) (hB:∃ a b c d f g h,B=qW a b c d f g h) (hN:∃ a b c d f g h,N=qW a b c d f g h) (q:W)
  (h1:Ca E1 15 [.d (.v (.int .i64 k))] (.d (bA kk ps),none)) (h2:Ca E1 1028 [.d (moD st li lf la),.d (bA kk ps),.d (.v (.int .i64 2)),.d (.v (.int .i64 4))] (.d (qW kk ps 2 n aM fin es),none))
  (h3:Ca E1 1029 [.d (qW kk ps 2 n aM fin es),.d (.s 1 (LK .i64 (iK p n n)))] (.d (.t [B,.v (.int .i64 0)]),none)) (h4:Ca E1 1029 [.d B,.d (.s 1 (LK .i64 (bJ 0 n (iK p n n) (iota n) n)))] (.d (.t [N,.v (.int .i64 0)]),none))
  (h5:Ca E1 1024 [.d (qW kk ps 2 n aM fin es)] (.d (.t [N,.v (.int .i64 0)]),none)) (h6:Ca E1 1020 [.d B] (.d (.v (.bool true)),none)) (h7:Ca E1 1027 [.d N,.d N] (.d (.v (.bool true)),none))
  (h8:Ca E1 1018 [.d (.s 1 (LK .i64 word)),.d (.v (.int .i64 2)),.d (.v (.int .i64 4))] (.d (.s 1 (LK .i64 x)),none)) (h9:Ca E1 1022 [.d (qW kk ps 2 n aM fin es),.d (.s 1 (LK .i64 x))] (.d q.d,none)) (h10:Ca E1 1022 [.d B,.d (.s 1 (LK .i64 x))] (.d q.d,none))
  (h11:Ca E1 12 [.d q.d,.d q.d] (.d (.v (.bool true)),none)) :
  Ca E1 1008 [.d (.v (.int .i64 k)),.d (.a [.v (.int .i64 st),.s 1 (LK .i64 li),.s 1 (LK .i64 lf),.s 1 (LK .i64 la),.v (.bool em)]),.d (.s 1 (LK .i64 p)),.d (.s 1 (LK .i64 word))] (.d (.v (.bool true)),none):=by
 obtain⟨K,hK,t0,t1,t2,t3,t4,t5,t6,t7,t8,t9,R6,XA⟩:=(aw.j (h1.j (h2.j (h3.j (h4.j (h5.j (h6.j (h7.j (h8.j (h9.j (h10.j h11.any))))))))))).at 0;clear h1 h2 h3 h4 h5 h6 h7 h8 h9 h10 h11 aw hK;have hperm:=uq p n n (Qd1 n);have lto:=(eD hperm).1;have l0:=ZW (LK .i64 p) (LK .i64 word) (bP st li lf la) (dD kk ps) kk ps 2 n aM fin es hn0 hn;have l1:=ZX p hp (LK .i64 word) (bP st li lf la) (dD kk ps) kk ps 2 n aM fin es hn;have l2:=ZY (LK .i64 word) (bP st li lf la) (dD kk ps) kk ps 2 n aM fin es hn (iK p n n) hperm;have sA:Ex E1 f1008.body.l (st0 [.d (.v (.int .i64 k)),.d (.a [.v (.int .i64 st),.s 1 (LK .i64 li),.s 1 (LK .i64 lf),.s 1 (LK .i64 la),.v (.bool em)]),.d (.s 1 (LK .i64 p)),.d (.s 1 (LK .i64 word)),.u,.u,.u,.u,.u,.u,.u,.u,.u,.u,.u,.u,.u,.u,.u,.u,.u,.u,.u,.u,.u] [])
   (.norm,(st0 [.d (.v (.int .i64 k)),.u,.d (.s 1 (LK .i64 p)),.d (.s 1 (LK .i64 word)),.r (.loc 0) 0,.u,.u,.u,.u,.u,.u,.u,.u,.u,.u,.u,.u,.u,.u,.u,.u,.u,.u,.u,.u] [Nj st li lf la em])):=by
  refine Ex.of (n:=60) ?_;clear l0 l1 l2 t0 t1 t2 t3 t4 t5 t6 t7 t8 t9 R6 XA;unfold Nj;simp (maxSteps:=400000) -implicitDefEqProofs[f1008]
 have sB:Ex E1 f1008.body.r.l (st0 [.d (.v (.int .i64 k)),.u,.d (.s 1 (LK .i64 p)),.d (.s 1 (LK .i64 word)),.r (.loc 0) 0,.u,.u,.u,.u,.u,.u,.u,.u,.u,.u,.u,.u,.u,.u,.u,.u,.u,.u,.u,.u] [Nj st li lf la em])
   (.norm,(st0 [.u,.u,.d (.s 1 (LK .i64 p)),.d (.s 1 (LK .i64 word)),.r (.loc 0) 0,.u,.r (.loc 1) 0,.u,.u,.u,.u,.u,.u,.u,.u,.u,.u,.u,.u,.u,.u,.u,.u,.u,.u] [Nj st li lf la em,dD kk ps])):=by
  refine Ex.of (n:=K+60) ?_;clear l0 l1 l2 t0 t2 t3 t4 t5 t6 t7 t8 t9 R6 XA sA;unfold Nj dD;unfold bA at t1;simp (maxSteps:=400000) -implicitDefEqProofs[f1008,t1]
 have sC:Ex E1 f1008.body.r.r.l (st0 [.u,.u,.d (.s 1 (LK .i64 p)),.d (.s 1 (LK .i64 word)),.r (.loc 0) 0,.u,.r (.loc 1) 0,.u,.u,.u,.u,.u,.u,.u,.u,.u,.u,.u,.u,.u,.u,.u,.u,.u,.u] [Nj st li lf la em,dD kk ps])
   (.norm,(st0 [.u,.u,.d (.s 1 (LK .i64 p)),.d (.s 1 (LK .i64 word)),.r (.loc 0) 0,.u,.r (.loc 1) 0,.u,.u,.u,.u,.u,.u,.u,.u,.u,.u,.u,.u,.u,.u,.u,.u,.u,.u] [bP st li lf la,dD kk ps])):=by
  refine Ex.of (n:=60) ?_;clear l0 l1 l2 t0 t1 t2 t3 t4 t5 t6 t7 t8 t9 R6 XA sA sB;unfold Nj bP dD;simp (maxSteps:=400000) -implicitDefEqProofs[f1008]
 have sD:Ex E1 f1008.body.r.r.r.l (st0 [.u,.u,.d (.s 1 (LK .i64 p)),.d (.s 1 (LK .i64 word)),.r (.loc 0) 0,.u,.r (.loc 1) 0,.u,.u,.u,.u,.u,.u,.u,.u,.u,.u,.u,.u,.u,.u,.u,.u,.u,.u] [bP st li lf la,dD kk ps])
   (.norm,{vars:=pV (LK .i64 p) (LK .i64 word) .u .u .u .u .u .u .u .u,base:=[],loc:=[bP st li lf la,dD kk ps,aD kk ps 2 n aM fin es],aP:=false}):=by
  refine Ex.of (n:=K+60) ?_;clear l0 l1 l2 t0 t1 t3 t4 t5 t6 t7 t8 t9 R6 XA sA sB sC;unfold bP dD pV aD;unfold moD bA qW at t2;generalize LK .i64 li=x1,LK .i64 lf=x2,LK .i64 la=x3,LK .i64 ps=x4 at*;generalize LK .i64 p=x5,LK .i64 word=x6 at*;simp (maxSteps:=400000) -implicitDefEqProofs[f1008,t2]
 have sE:Ex E1 f1008.body.r.r.r.r.l {vars:=pV (LK .i64 p) (LK .i64 word) .u .u .u .u .u .u .u .u,base:=[],loc:=[bP st li lf la,dD kk ps,aD kk ps 2 n aM fin es],aP:=false}
   (.norm,{vars:=pV (LK .i64 p) (LK .i64 word) (p8 0) .u .u .u .u .u .u .u,base:=[],loc:=[bP st li lf la,dD kk ps,aD kk ps 2 n aM fin es],aP:=false}):=by
  refine Ex.of (n:=60) ?_;clear l0 l1 l2 t0 t1 t2 t3 t4 t5 t6 t7 t8 t9 R6 XA sA sB sC sD;unfold pV p8;rw[if_pos rfl];simp (maxSteps:=400000) -implicitDefEqProofs[f1008]
 have sF:Ex E1 f1008.body.r.r.r.r.r.l.l {vars:=pV (LK .i64 p) (LK .i64 word) (p8 0) .u .u .u .u .u .u .u,base:=[],loc:=[bP st li lf la,dD kk ps,aD kk ps 2 n aM fin es],aP:=false}
   (.norm,{vars:=pV (LK .i64 p) (LK .i64 word) (p8 0) (.d (.v (.int .i64 (0:Nat)))) .u .u .u .u .u .u,base:=[],loc:=pH [bP st li lf la,dD kk ps,aD kk ps 2 n aM fin es] 0 (LK .i64 (iota 0)),aP:=false}):=by
  refine Ex.of (n:=60) ?_;clear l0 l1 l2 t0 t1 t2 t3 t4 t5 t6 t7 t8 t9 R6 XA sA sB sC sD sE;unfold pV pH p8;rw[if_pos rfl,if_pos rfl,show((0:Nat):Int)=0 from rfl];simp (maxSteps:=400000) -implicitDefEqProofs[f1008]
 have sG:Ex E1 f1008.body.r.r.r.r.r.r.l.l {vars:=pV (LK .i64 p) (LK .i64 word) (p8 n) (.d (.v (.int .i64 n))) .u .u .u (.d (.v (.bool false))) .u .u,base:=[],loc:=pH [bP st li lf la,dD kk ps,aD kk ps 2 n aM fin es] n (LK .i64 (iota n)),aP:=false}
   (.norm,O6 p (LK .i64 word) [bP st li lf la,dD kk ps,aD kk ps 2 n aM fin es] n (iK p n 0) 0 .u):=by
  refine Ex.of (n:=60) ?_;clear l0 l1 l2 t0 t1 t2 t3 t4 t5 t6 t7 t8 t9 R6 XA sA sB sC sD sE sF;unfold O6 pV pH p8 iK;rw[if_neg omK,if_neg omK,show((0:Nat):Int)=0 from rfl];generalize LK .i64 p=x5,LK .i64 word=x6,LK .i64 (iota n)=x7 at*;simp (maxSteps:=400000) -implicitDefEqProofs[f1008]
 have z0:LK .i64 (bJ 0 n (iK p n n) (iota n) 0)=List.replicate n (.v (.int .i64 0)):=by rw[VU];simp[LK]
 have hn1:(0:Int)<=(n:Int):=by omega
 have hm1:(n:Int)*8<=(most:Int):=by unfold most;omega
 have hm2:(n:Int)<=(most:Int):=by unfold most;omega
 have sH:Ex E1 f1008.body.r.r.r.r.r.r.r.l (O6 p (LK .i64 word) [bP st li lf la,dD kk ps,aD kk ps 2 n aM fin es] n (iK p n n) n (.d (.v (.bool false))))
   (.norm,{vars:=(pV [] (LK .i64 word) (.ls (.loc 3) (n-1) 1 0 n) .u .u (.ls (.loc 4) 0 1 0 n) .u .u .u .u).set 2 .u,base:=[],loc:=[bP st li lf la,dD kk ps,aD kk ps 2 n aM fin es,.row (n-1) 1 (LK .i64 (iK p n n)),.row 0 1 (LK .i64 (bJ 0 n (iK p n n) (iota n) 0))],aP:=false}):=by
  refine Ex.of (n:=60) ?_;clear l0 l1 l2 t0 t1 t2 t3 t4 t5 t6 t7 t8 t9 R6 XA sA sB sC sD sE sF sG;rw[z0];unfold O6 pV aD;generalize LK .i64 p=x5,LK .i64 word=x6,LK .i64 (iK p n n)=x7 at*;generalize LK .i64 ps=x4 at*;simp (maxSteps:=400000) -implicitDefEqProofs[f1008,hn1,hm1,hm2]
 have sI:Ex E1 f1008.body.r.r.r.r.r.r.r.r.l.l {vars:=(pV [] (LK .i64 word) (.ls (.loc 3) (n-1) 1 0 n) .u .u (.ls (.loc 4) 0 1 0 n) .u .u .u .u).set 2 .u,base:=[],loc:=[bP st li lf la,dD kk ps,aD kk ps 2 n aM fin es,.row (n-1) 1 (LK .i64 (iK p n n)),.row 0 1 (LK .i64 (bJ 0 n (iK p n n) (iota n) 0))],aP:=false}
   (.norm,O7 (LK .i64 word) [bP st li lf la,dD kk ps,aD kk ps 2 n aM fin es] n (iK p n n) (bJ 0 n (iK p n n) (iota n) 0) 0 .u):=by
  refine Ex.of (n:=60) ?_;clear l0 l1 l2 t0 t1 t2 t3 t4 t5 t6 t7 t8 t9 R6 XA sA sB sC sD sE sF sG sH;unfold O7 pV;rw[show((0:Nat):Int)=0 from rfl];generalize LK .i64 word=x6,LK .i64 (iK p n n)=x7,LK .i64 (bJ 0 n (iK p n n) (iota n) 0)=x8 at*;simp (maxSteps:=400000) -implicitDefEqProofs[f1008]
 have sJ:∃ st',Ex E1 f1008.body.r.r.r.r.r.r.r.r.r (O7 (LK .i64 word) [bP st li lf la,dD kk ps,aD kk ps 2 n aM fin es] n (iK p n n) (bJ 0 n (iK p n n) (iota n) n) n (.d (.v (.bool false)))) (.ret,st')/\finish f1008 st'=some (.d (.v (.bool true)),none):=by
  have k1:(LK .i64 (iK p n n)).length=n:=by simp[LK,lto]
  have k2:(LK .i64 (bJ 0 n (iK p n n) (iota n) n)).length=n:=by simp[LK,cO]
  clear l0 l1 l2 t1 t2 sA sB sC sD sE sF sG sH sI z0;obtain⟨qa,qb',qc',qd,qf,qg,qh,rfl⟩:=hN;obtain⟨ra,rb,rc,rd,rf,rg,rh,rfl⟩:=hB;obtain⟨qs',ql1,ql2,qc,qb,qu,qp,qq,eq⟩:=q.aN;simp only[eq]at*;clear eq;unfold O7 pV aD;unfold qW wD at*;generalize LK .i64 word=x6,LK .i64 x=x5,LK .i64 (iK p n n)=x7,LK .i64 (bJ 0 n (iK p n n) (iota n) n)=x8,LK .i64 ps=x4,LK .i64 qb'=x3,LK .i64 rb=x2 at*;have ta:x7.take n=x7:=by rw[<-k1,Qn1]
  have tb:x8.take n=x8:=by rw[<-k2,Qn1]
  refine⟨_,Ex.of (n:=K+300) (by simp (maxSteps:=2000000) -implicitDefEqProofs[f1008,t0,t3,t4,t5,t6,t7,t8,t9,R6,XA,uC,kT,Ii,k1,k2,ta,tb,ae.view];rfl),?_⟩;simp[finish,show f1008.res=[.var 5] from rfl,show f1008.ref=false from rfl]
 obtain⟨st',e1,e2⟩:=sJ;exact Ca.body (o:=.ret) rfl (k1008:E1.fn _=_) rfl (sA.seq (sB.seq (sC.seq (sD.seq (sE.seq (Ex.seq (sF.seq (Ex.block l0)) (Ex.seq (sG.seq (Ex.block l1)) (sH.seq (Ex.seq (sI.seq (Ex.block l2)) e1))))))))) (by simp) e2
theorem Wx {kk:Int}{n:Nat}{to back:List Int}(h:Inv n to back){xs:List (List Sv)}(hx:xs.length=n)(z:List Sv):bJ qL n to (xs.map (bS kk)) n=(bJ z n to xs n).map (bS kk):=by
 rw[VV,Wq h (by simp[hx])]
section ren
variable {kk:Int} {ps:List Int} (hv:aJ kk ps=true) {sy n:Nat} {aM fin:List (List Sv)} (M:Made kk ps sy n aM fin) {l:List (Ar (List Sv))} (hl:Q8 kk ps sy n l) {to back:List Int} (h:Inv n to back)
include hv M hl h
omit hv in
theorem Km:Made kk ps sy n (bJ (aW kk ps) n to aM n) (bJ (aW kk ps) n to fin n)/\Q8 kk ps sy n (l.map (Ar.via to)):=by
 refine⟨⟨M.s1,M.n1,cO _ _ _ _ _,cO _ _ _ _ _,fun x hx=>M.wi x (xE h.p M.li x hx),fun x hx=>M.wf x (xE h.p M.lf x hx)⟩,by rw[Qk2];exact hl.1,fun a ha => ?_⟩;obtain⟨b,hb,rfl⟩:=Qg2.1 ha;obtain⟨g1,g2,g3,g4⟩:=hl.2 b hb;exact⟨g1,(pX h ⟨g2,g4⟩).1,g3,(pX h ⟨g2,g4⟩).2⟩
theorem Ko:Ca E1 1029 [.d (uP kk ps sy n (aM.map (bS kk)) (fin.map (bS kk)) (bS kk) l),.d (.s 1 (LK .i64 to))]
  (.d (.t [uP kk ps sy n ((bJ (aW kk ps) n to aM n).map (bS kk)) ((bJ (aW kk ps) n to fin n).map (bS kk)) (bS kk) (fD (bL (dz kk ps)) (Et kk ps) (l.map (Ar.via to))),.v (.int .i64 0)]),none):=by
 obtain⟨M',hl'⟩:=Km M hl h;have hp:=ZC to n (by rw[(eD h.p).1];have:=M.n1;omega) M.n1;rw[h.p]at hp;have hN:=zZ hv M' hl';have h1:=M.n1;have h2:=M.li;have h3:=M.lf;have h4:=hl.1;refine adi (e:=bS kk) kk ps sy n (aM.map (bS kk)) (fin.map (bS kk)) l to M.n1 (by simp[h2]) (by simp[h3]) omK h.p (fun a ha=>⟨(hl.2 a ha).2.1,(hl.2 a ha).2.2.2⟩) (vN hv M hl).1 hp _ ⟨_,_,_,_,_,_,_,rfl⟩ ?_;rw[Wx h h2 (aW kk ps),Wx h h3 (aW kk ps)];exact hN
end ren
theorem Wy (k:Int)(em:Bool)(st:Int)(li lf la p word:List Int)(hk:d_ k)(hli:∀ x ∈ li,d_ x)(hlf:∀ x ∈ lf,d_ x)(hla:∀ x ∈ la,d_ x)(hp:∀ x ∈ p,d_ x)(hw:∀ x ∈ word,d_ x)(aw:Ca E1 1011 [] (.d (.v (.bool true)),none)) :
  Ca E1 1008 [.d (.v (.int .i64 k)),.d (.a [.v (.int .i64 st),.s 1 (LK .i64 li),.s 1 (LK .i64 lf),.s 1 (LK .i64 la),.v (.bool em)]),.d (.s 1 (LK .i64 p)),.d (.s 1 (LK .i64 word))] (.d (.v (.bool true)),none):=by
 have hv:=MP k;have c1:=Ca.fP (YY k hk);generalize rP k=kk,zK k=ps at*;obtain⟨hn0,hn4⟩:=Wm st;have c2:=ZQ hv st li lf la 2 omK hli hlf hla;have hm:=Nf hv 2 omK (stM st) hn0 la;have hlen:=Q6 kk ps 2 (stM st) la;have l1:=Ke kk ps li 0 (stM st);have l2:=Ke kk ps lf (stM st-1) (stM st);have w1:∀ x ∈ Ak kk ps li 0 (stM st),Wt kk ps x:=fun x hx=>by
  obtain⟨i,_,rfl⟩:=Qg2.1 hx;exact Wi hv li i 0
 have w2:∀ x ∈ Ak kk ps lf (stM st-1) (stM st),Wt kk ps x:=fun x hx=>by
  obtain⟨i,_,rfl⟩:=Qg2.1 hx;exact Wi hv lf i _
 rw[show((2:Nat):Int)=2 from rfl]at hm;generalize Ak kk ps li 0 (stM st)=aM,Ak kk ps lf (stM st-1) (stM st)=fin,xI kk ps 2 (stM st) la=l at*;generalize stM st=n at*;have M:Made kk ps 2 n aM fin:=⟨by omega,by omega,l1,l2,w1,w2⟩
 have A:Ha (vM (dz kk ps)) (bL (dz kk ps)) bu (aW kk ps) (Fw kk ps):=Ka (aQ hv);have hP:PA (vM (dz kk ps)) l:=fun a ha=>((hm a ha).wt hv).gd
 have hL:Q8 kk ps 2 n l:=⟨hlen,fun a ha=>⟨(hm a ha).wt hv,(hm a ha).f,(hm a ha).l,(hm a ha).t⟩⟩
 have hin:Wo n l:=fun a ha=>⟨(hm a ha).f,(hm a ha).t⟩
 have hI:Inv n (iK p n n) (bJ 0 n (iK p n n) (iota n) n):=Kk (uq p n n (Qd1 n));have hmv:∀ a ∈ l.map (Ar.via (iK p n n)),FJ kk ps 2 n a:=fun a ha=>by
  obtain⟨b,hb,rfl⟩:=Qg2.1 ha;have g:=hm b hb;exact⟨(pX hI ⟨g.f,g.t⟩).1,g.l,(pX hI ⟨g.f,g.t⟩).2,g.x,g.fr⟩
 obtain⟨Mv,hLv⟩:=Km M hL hI;have hB:Q8 kk ps 2 n (fD (bL (dz kk ps)) (Et kk ps) (l.map (Ar.via (iK p n n)))):=⟨Fx _ 10 hLv.1,Kg hv hmv hLv.1⟩
 have hN:Q8 kk ps 2 n (fD (bL (dz kk ps)) (Et kk ps) l):=⟨Fx l 10 hlen,Kg hv hm hlen⟩
 have hz:∀ x,vM (dz kk ps) x->Et kk ps x=true->x=aW kk ps:=fun x hx h=>Wn hv hx h
 have n1:=zZ hv M hL;have r1:=Ko hv M hL hI;have r2:=Ko hv Mv hB hI.symm;rw[Kj hI M.li,Kj hI M.lf,Ng A hz hI hP hin]at r2;have hPv:PA (vM (dz kk ps)) (l.map (Ar.via (iK p n n))):=fun a ha=>((hmv a ha).wt hv).gd
 have q1:=FE hv 2 w1 w2 (fun a ha=>(hL.2 a ha).1) hlen omK omK (fun a ha=>by have:=(hL.2 a ha).2.2.2;omega) (qM 2 word) (FH 2 word);have q2:=FE hv 2 Mv.wi Mv.wf (fun a ha=>(hB.2 a ha).1) hB.1 (by rw[Mv.li,Mv.lf]) (by rw[Mv.lf];omega) (fun a ha=>by have:=(hB.2 a ha).2.2.2;rw[Mv.lf];exact this) (qM 2 word) (FH 2 word);rw[Hl A hz (fun x hx=>(Mv.wf x hx).gd) hPv,Nh A hI M.li M.lf (fun x hx=>(w1 x hx).gd) (fun x hx=>(w2 x hx).gd) hP hin,Mv.li]at q2;obtain⟨q1,qo⟩:=q1;have q2:=q2.1;have vB:=(vN hv Mv hB).2;have sN:=Q9 hv M hN;rw[l1]at q1;unfold uP at c2 n1 r1 r2 q1 q2 vB sN;exact Nk aw k em st li lf la p word (qM 2 word) hp kk ps n hn0 omK _ _ _ _ _ ⟨_,_,_,_,_,_,_,rfl⟩ ⟨_,_,_,_,_,_,_,rfl⟩ (bS kk _) c1 c2 r1 r2 n1 vB sN (We 2 omK word hw) q1 q2 (Y8 hv omK qo)
end Fi.S
