import Derived.Test.YtgngjdakilfmoaaGreatDoorDL
import Derived.Test.YtgngjdakilfmoaaGreatDoorDF
set_option linter.unusedVariables false
set_option linter.unusedSimpArgs false
noncomputable section
namespace Fi.S
open Go Fi
set_option maxHeartbeats 8000000
set_option maxRecDepth 10000
section
variable {α:Type} {P:α->Prop} {pl tm:α->α->α} {z o:α} {bt:α->α->Bool} {n:Nat} {l:List (Ar α)}
theorem ajD (hl:PA P l):PA P (flat l):=fun a ha=>by
 obtain⟨b,hb,rfl⟩:=Qg1.1 ha;exact hl b hb
theorem ajN (hin:∀ a ∈ l,a.f.toNat<n/\a.t.toNat<n):∀ a ∈ flat l,a.f.toNat<n/\a.t.toNat<n:=fun a ha=>by
 obtain⟨b,hb,rfl⟩:=Qg1.1 ha;exact hin b hb
theorem aeH (A:EW P pl tm z o){v:List α}(hv:∀ x ∈ v,P x):∀ (l:List (Ar α)) (out:List α),PA P l->(flat (l.map Ar.turn)).foldl (xW pl tm z 0 v) out=(flat l).foldl (acF pl tm z 0 v) out
 | [],_,_=>rfl
 | a::l,out,hl=>by
  have ha:=hl a aC;have e:xW pl tm z 0 v out ⟨a.t,0,a.f,a.x⟩=acF pl tm z 0 v out ⟨a.f,0,a.t,a.x⟩:=by
   unfold xW acF;rw[if_pos rfl,if_pos rfl];show out.set a.f.toNat (pl (out.getD a.f.toNat z) (tm (v.getD a.t.toNat z) a.x))=out.set a.f.toNat (pl (out.getD a.f.toNat z) (tm a.x (v.getD a.t.toNat z)));rw[A.Gl ha (b_ A.pz hv _)]
  show(flat (l.map Ar.turn)).foldl (xW pl tm z 0 v) (xW pl tm z 0 v out ⟨a.t,0,a.f,a.x⟩)=(flat l).foldl (acF pl tm z 0 v) (acF pl tm z 0 v out ⟨a.f,0,a.t,a.x⟩);rw[e];exact aeH A hv l _ fun b hb=>hl b (by simp[hb])
theorem ag3 (A:EW P pl tm z o)(hl:PA P l){v:List α}(hv:∀ x ∈ v,P x):p_ pl tm z n (l.map Ar.turn) v=agd pl tm z n (flat l) 0 v:=aeH A hv l _ hl
theorem aor (A:EW P pl tm z o)(hl:PA P l)(hin:∀ a ∈ l,a.f.toNat<n/\a.t.toNat<n){x y:List α}(hx:∀ w ∈ x,P w)(hy:∀ w ∈ y,P w)(lx:x.length=n)(ly:y.length=n) :
  N8 pl tm z (p_ pl tm z n l x) y=N8 pl tm z x (p_ pl tm z n (l.map Ar.turn) y):=by
 rw[ag3 A hl hy];exact anc A hx hy lx ly (ajD hl) (ajN hin) 0
theorem afV (v:List α):∀ k,j6 pl tm z n l (p_ pl tm z n l v) k=p_ pl tm z n l (j6 pl tm z n l v k)
 | 0=>rfl
 | k+1=>by
  show p_ pl tm z n l (j6 pl tm z n l (p_ pl tm z n l v) k)=p_ pl tm z n l (p_ pl tm z n l (j6 pl tm z n l v k));rw[afV v k]
theorem agh (A:EW P pl tm z o)(hl:PA P l)(hin:∀ a ∈ l,a.f.toNat<n/\a.t.toNat<n){x:List α}(hx:∀ w ∈ x,P w)(lx:x.length=n):∀ (k:Nat) (y:List α),(∀ w ∈ y,P w)->y.length=n ->
  N8 pl tm z (j6 pl tm z n l x k) y=N8 pl tm z x (j6 pl tm z n (l.map Ar.turn) y k)
 | 0,_,_,_=>rfl
 | k+1,y,hy,ly=>by
  show N8 pl tm z (p_ pl tm z n l (j6 pl tm z n l x k)) y=_;rw[aor A hl hin (j_ A hl hin hx k) hy (K5 lx k) ly,agh A hl hin hx lx k _ (qb A (Iw hl) (Iu hin) hy).1 (zI ..),afV];rfl
def aaG (pl tm:α->α->α)(z:α)(n:Nat)(l:List (Ar α))(fin:List α)(k q:Nat):α:=(j6 pl tm z n (l.map Ar.turn) fin k).getD q z
def prs (n m:Nat):List (Nat × Nat):=(List.range n).flatMap fun k=>(List.range m).map fun q=>(k,q)
def plt (p q:Nat × Nat):Prop:=p.1<q.1\/p.1=q.1/\p.2<q.2
theorem ads {n m k q:Nat}:(k,q) ∈ prs n m↔k<n/\q<m:=by
 unfold prs;simp
theorem ajP (n m:Nat):(prs n m).Pairwise plt:=by
 unfold prs;rw[List.pairwise_flatMap];refine⟨fun k _ => ?_,?_⟩
 ·rw[Xo2];exact List.pairwise_lt_range.imp fun h=>.inr ⟨rfl,h⟩
 ·refine List.pairwise_lt_range.imp fun {a b} h x hx y hy => ?_
  obtain⟨_,_,rfl⟩:=Qg1.1 hx;obtain⟨_,_,rfl⟩:=Qg1.1 hy;exact .inl h
def bs1 (bt:α->α->Bool)(y:Nat × Nat->α)(acc:α × Nat × Nat)(p:Nat × Nat):α × Nat × Nat:=if bt (y p) acc.1 then(y p,p) else acc
def acs (bt:α->α->Bool)(z:α)(y:Nat × Nat->α)(n m:Nat):α × Nat × Nat:=(prs n m).foldl (bs1 bt y) (z,0,0)
variable (O:aib P pl tm z o) (hb:∀ {x y},P x->P y->(if bt x y then x else y)=pl y x) (hi:∀ x,P x->bt x x=false)
section sel
include O hb
theorem akv {x y:α}(hx:P x)(hy:P y):(bt x y=true->lq pl y x)/\(bt x y=false->lq pl x y):=by
 have e:=hb hx hy;refine⟨fun h => ?_,fun h => ?_⟩
 ·rw[h,if_pos rfl]at e;show pl x y=x;rw[O.gm.comm hx hy];exact e.symm
 ·rw[h,if_neg aC]at e;exact e.symm
theorem ahB:∀ {l:List α},(∀ x ∈ l,P x)->sm pl z l=z\/sm pl z l ∈ l
 | [],_=>.inl rfl
 | x::l,h=>by
  have hx:=h x aC;have hl:∀ y ∈ l,P y:=fun y hy=>h y (by simp[hy])
  rw[jZ O.gm hx hl,<-hb (zF O.gm hl) hx];split
  ·rcases ahB hl with e|e
   ·exact .inl e
   ·exact .inr (Qg2 _ e)
  ·exact .inr aC
include hi
def BInv (P:α->Prop)(pl:α->α->α)(z:α)(y:Nat × Nat->α)(done:List (Nat × Nat))(acc:α × Nat × Nat):Prop :=
 P acc.1/\(∀ p ∈ done,lq pl (y p) acc.1)/\(acc=(z,0,0)\/(acc.1≠z/\acc.1=y acc.2/\acc.2 ∈ done/\∀ p ∈ done,y p=acc.1->p=acc.2\/plt acc.2 p))
theorem agi (y:Nat × Nat->α):∀ (ps done:List (Nat × Nat)) (acc:α × Nat × Nat),(∀ p ∈ done++ps,P (y p))->(done++ps).Pairwise plt->BInv P pl z y done acc->BInv P pl z y (done++ps) (ps.foldl (bs1 bt y) acc)
 | [],done,acc,_,_,h=>by rw[Q10];exact h
 | p::ps,done,acc,hP,hs,h=>by
  have e:done++p::ps=(done++[p])++ps:=aC;rw[Ql1,e];rw[e]at hP hs;refine agi y ps (done++[p]) _ hP hs ?_;obtain⟨h1,h2,h3⟩:=h;have py:P (y p):=hP p aC;obtain⟨b1,b2⟩:=akv O hb py h1;unfold bs1
  by_cases hbt:bt (y p) acc.1=true
  ·rw[if_pos hbt];have k1:=b1 hbt;refine⟨py,fun q hq => ?_,.inr ⟨fun hz => ?_,rfl,aC,fun q hq he => ?_⟩⟩
   ·rcases Qw0.1 hq with hq|hq
    ·exact j5 O (hP q (by simp[hq])) h1 py (h2 q hq) k1
    ·rw[Qx0.1 hq];exact xX O py
   ·have hz:y p=z:=hz;have:acc.1=z:=by
     have k2:pl (y p) acc.1=y p:=k1;rw[hz,O.gm.zl h1]at k2;exact k2
    rw[hz,this,hi z O.gm.pz]at hbt;cases hbt
   ·rcases Qw0.1 hq with hq|hq
    ·exfalso;have k2:=h2 q hq;rw[he]at k2;have:y p=acc.1:=N9 O py h1 k2 k1;rw[this,hi _ h1]at hbt;cases hbt
    ·exact .inl (Qx0.1 hq)
  ·rw[if_neg hbt];have k1:=b2 (by simpa using hbt);refine⟨h1,fun q hq => ?_,?_⟩
   ·rcases Qw0.1 hq with hq|hq
    ·exact h2 q hq
    ·rw[Qx0.1 hq];exact k1
   ·rcases h3 with h3|⟨g1,g2,g3,g4⟩
    ·exact .inl h3
    ·refine .inr ⟨g1,g2,by simp[g3],fun q hq he => ?_⟩;rcases Qw0.1 hq with hq|hq
     ·exact g4 q hq he
     ·rw[Qx0.1 hq];have hs1:=(List.pairwise_append.1 hs).1;exact .inr ((List.pairwise_append.1 hs1).2.2 _ g3 p aC)
theorem ahC (y:Nat × Nat->α)(n m:Nat)(hP:∀ k q,k<n->q<m->P (y (k,q))):P (acs bt z y n m).1/\(∀ k q,k<n->q<m->lq pl (y (k,q)) (acs bt z y n m).1) /\
  (acs bt z y n m=(z,0,0)\/((acs bt z y n m).1≠z/\(acs bt z y n m).1=y (acs bt z y n m).2/\((acs bt z y n m).2.1<n/\(acs bt z y n m).2.2<m) /\
   ∀ k q,k<n->q<m->y (k,q)=(acs bt z y n m).1->(k,q)=(acs bt z y n m).2\/plt (acs bt z y n m).2 (k,q))):=by
 have h:=agi O hb hi y (prs n m) [] (z,0,0) (fun p hp=>by
  obtain⟨k,q⟩:=p;obtain⟨h1,h2⟩:=ads.1 (by simpa using hp);exact hP k q h1 h2) (by simpa using ajP n m) ⟨O.gm.pz,fun p hp=>(by cases hp),.inl rfl⟩
 rw[Qv2]at h;obtain⟨h1,h2,h3⟩:=h;refine⟨h1,fun k q hk hq=>h2 _ (ads.2 ⟨hk,hq⟩),?_⟩;rcases h3 with h3|⟨g1,g2,g3,g4⟩
 ·exact .inl h3
 ·exact .inr ⟨g1,g2,ads.1 g3,fun k q hk hq=>g4 _ (ads.2 ⟨hk,hq⟩)⟩
end sel
section ak3
variable (hl:PA P l) (hin:∀ a ∈ l,a.f.toNat<n/\a.t.toNat<n) {fin:List α} (hf:∀ x ∈ fin,P x)
include O hl hin hf
theorem aez (k q:Nat):P (aaG pl tm z n l fin k q):=b_ O.gm.pz (j_ O.gm (Iw hl) (Iu hin) hf k) q
theorem akw {a:Ar α}(ha:a ∈ l)(k:Nat):lq pl (tm a.x (aaG pl tm z n l fin k a.t.toNat)) (aaG pl tm z n l fin (k+1) a.f.toNat):=by
 have hk:=j_ O.gm (Iw hl) (Iu hin) hf k;obtain⟨h1,h2⟩:=qb O.gm (Iw hl) (Iu hin) hk;show lq pl _ ((p_ pl tm z n (l.map Ar.turn) (j6 pl tm z n (l.map Ar.turn) fin k)).getD a.f.toNat z);rw[h2 _ (hin a ha).1];refine XK O (afa O.gm (Iw hl) hk a.f.toNat) (Qg1.2 ⟨a.turn,Qg1.2 ⟨a,ha,rfl⟩,?_⟩);unfold hA;show(if a.f.toNat=a.f.toNat then tm ((j6 pl tm z n (l.map Ar.turn) fin k).getD a.t.toNat z) a.x else z)=_;rw[if_pos rfl,O.gm.Gl (b_ O.gm.pz hk _) (hl a ha)];rfl
include hb in
theorem alK (k q:Nat)(hq:q<n):aaG pl tm z n l fin (k+1) q=z\/∃ a ∈ l,a.f.toNat=q/\aaG pl tm z n l fin (k+1) q=tm a.x (aaG pl tm z n l fin k a.t.toNat):=by
 have hk:=j_ O.gm (Iw hl) (Iu hin) hf k;obtain⟨h1,h2⟩:=qb O.gm (Iw hl) (Iu hin) hk;have e:aaG pl tm z n l fin (k+1) q=sm pl z ((l.map Ar.turn).map (hA tm z (j6 pl tm z n (l.map Ar.turn) fin k) q)):=h2 q hq;rw[e];rcases ahB O hb (afa O.gm (Iw hl) hk q) with h|h
 ·exact .inl h
 ·obtain⟨b,hb',g⟩:=Qg1.1 h;obtain⟨a,ha,rfl⟩:=Qg1.1 hb';rw[<-g];unfold hA;split
  ·rename_i ht;refine .inr ⟨a,ha,ht,?_⟩;show tm ((j6 pl tm z n (l.map Ar.turn) fin k).getD a.t.toNat z) a.x=_;rw[O.gm.Gl (b_ O.gm.pz hk _) (hl a ha)];rfl
  ·exact .inl rfl
omit hl hin hf in
theorem acG {c x y:α}(hc:P c)(hx:P x)(hy:P y)(h:lq pl x y):lq pl (tm c x) (tm c y):=by
 rw[O.gm.Gl hc hx,O.gm.Gl hc hy];exact PZ O hx hy hc h
omit hf hl hin in
theorem ae5 {l':List (Ar α)}(hl':PA P l')(hin':∀ a ∈ l',a.f.toNat<n/\a.t.toNat<n){v:List α}(hv:∀ x ∈ v,P x)(lv:v.length=n){c u:α}(hc:P c)(hu:P u){q:Nat}(hq:q<n) :
  ∀ m,(∀ k,k<=m->lq pl (tm c ((j6 pl tm z n l' v k).getD q z)) u)->lq pl (tm c ((jB pl tm z n l' v m).getD q z)) u
 | 0,h=>h 0 (Qd2 _)
 | m+1,h=>by
  obtain⟨h1,h2⟩:=uM O.gm hl' hin' hv lv m;have p1:=b_ O.gm.pz h1 q;have p2:=b_ O.gm.pz (j_ O.gm hl' hin' hv (m+1)) q;rw[h2 q hq,O.gm.Xm hc p1 p2];exact acO O (O.gm.pt hc p1) (O.gm.pt hc p2) hu (ae5 hl' hin' hv lv hc hu hq m fun k hk=>h k ae) (h (m+1) (Qd2 _))
variable (lf:fin.length=n) {bg:List α} (hn:∀ x ∈ bg,P x) (li:bg.length=n) (n0:0<n)
abbrev BST (bt:α->α->Bool)(pl tm:α->α->α)(z:α)(n:Nat)(l:List (Ar α))(bg fin:List α):α × Nat × Nat:=acs bt z (fun p=>tm (bg.getD p.2 z) (aaG pl tm z n l fin p.1 p.2)) n n
section
include hb hi hn
theorem acH:P (BST bt pl tm z n l bg fin).1/\(∀ k q,k<n->q<n->lq pl (tm (bg.getD q z) (aaG pl tm z n l fin k q)) (BST bt pl tm z n l bg fin).1) /\
  (BST bt pl tm z n l bg fin=(z,0,0)\/((BST bt pl tm z n l bg fin).1≠z/\(BST bt pl tm z n l bg fin).1=tm (bg.getD (BST bt pl tm z n l bg fin).2.2 z) (aaG pl tm z n l fin (BST bt pl tm z n l bg fin).2.1 (BST bt pl tm z n l bg fin).2.2)/\((BST bt pl tm z n l bg fin).2.1<n/\(BST bt pl tm z n l bg fin).2.2<n) /\
   ∀ k q,k<n->q<n->tm (bg.getD q z) (aaG pl tm z n l fin k q)=(BST bt pl tm z n l bg fin).1->(k,q)=(BST bt pl tm z n l bg fin).2\/plt (BST bt pl tm z n l bg fin).2 (k,q))) :=
 ahC O hb hi (fun p=>tm (bg.getD p.2 z) (aaG pl tm z n l fin p.1 p.2)) n n fun k q _ _=>O.gm.pt (b_ O.gm.pz hn _) (aez O hl hin hf k q)
include lf n0
theorem agj (k q:Nat)(hq:q<n):lq pl (tm (bg.getD q z) (aaG pl tm z n l fin k q)) (BST bt pl tm z n l bg fin).1:=by
 obtain⟨h1,h2,_⟩:=acH O hb hi hl hin hf hn;have pi:=b_ O.gm.pz hn q;have pp:=b_ O.gm.pz (uM O.gm (Iw hl) (Iu hin) hf lf (n-1)).1 q;have pk:=aez O hl hin hf k q;refine j5 O (O.gm.pt pi pk) (O.gm.pt pi pp) h1 (acG O pi pk pp (XN O (Iw hl) (Iu hin) hf lf k q hq)) ?_;exact ae5 O (Iw hl) (Iu hin) hf lf pi h1 hq (n-1) fun k hk=>h2 k q ae hq
omit lf n0 hb hi hin hl in
theorem ae6 (lf:fin.length=n)(li:bg.length=n){q:Nat}(hq:q<n):lq pl (tm (bg.getD q z) (fin.getD q z)) (N8 pl tm z bg fin):=by
 rw[adI];refine XK O (age O.gm hn hf) (Qg1.2 ⟨(bg.getD q z,fin.getD q z),?_,rfl⟩);have h1:=getD_at (z:=z) (l:=bg) (i:=q) ae;have h2:=getD_at (z:=z) (l:=fin) (i:=q) ae;exact Qa2 (i:=q) (by rw[Xf1];exact⟨h1,h2⟩)
omit lf n0 hb hi hin hl in
theorem ae7 (li:bg.length=n){u:α}(hu:P u)(h:∀ q,q<n->lq pl (tm (bg.getD q z) (fin.getD q z)) u):lq pl (N8 pl tm z bg fin) u:=by
 rw[adI];refine aks O (age O.gm hn hf) hu fun x hx => ?_
 obtain⟨p,hp,rfl⟩:=Qg1.1 hx;obtain⟨i,hi',e⟩:=Xd0 hp;have e':(bg.zip fin)[i]?=some p:=by rw[Qa1 hi',e]
 rw[Xf1]at e';have hlt:i<bg.length:=(aT e'.1)
 have:=h i ae;rw[Qj0,Qj0,e'.1,e'.2]at this;exact this
include li
theorem ajQ:N8 pl tm z bg (jB pl tm z n (l.map Ar.turn) fin (n-1))=(BST bt pl tm z n l bg fin).1:=by
 obtain⟨h1,h2,h3⟩:=acH O hb hi hl hin hf hn;have hp:=(uM O.gm (Iw hl) (Iu hin) hf lf (n-1)).1;have lp:=tN (pl:=pl) (tm:=tm) (z:=z) (l:=l.map Ar.turn) lf (n-1);refine N9 O (aaT O.gm hn hp) h1 ?_ ?_
 ·refine ae7 O hp hn li h1 fun q hq => ?_
  exact ae5 O (Iw hl) (Iu hin) hf lf (b_ O.gm.pz hn q) h1 hq (n-1) fun k hk=>h2 k q ae hq
 ·rcases h3 with h3|⟨_,g2,⟨g3,g4⟩,_⟩
  ·rw[h3];exact PY O (aaT O.gm hn hp)
  ·have pi:=b_ O.gm.pz hn (BST bt pl tm z n l bg fin).2.2;have pk:=aez O hl hin hf (BST bt pl tm z n l bg fin).2.1 (BST bt pl tm z n l bg fin).2.2;have pq:=b_ O.gm.pz hp (BST bt pl tm z n l bg fin).2.2;rw[g2];exact j5 O (O.gm.pt pi pk) (O.gm.pt pi pq) (aaT O.gm hn hp) (acG O pi pk pq (Iq O (Iw hl) (Iu hin) hf lf (n-1) _ _ ae g4)) (ae6 O hp hn lp li g4)
theorem ajR:N8 pl tm z (jB pl tm z n l bg (n-1)) fin=(BST bt pl tm z n l bg fin).1:=by
 obtain⟨h1,h2,h3⟩:=acH O hb hi hl hin hf hn;have hp:=(uM O.gm hl hin hn li (n-1)).1;have lp:=tN (pl:=pl) (tm:=tm) (z:=z) (l:=l) li (n-1);have hk:=fun k=>j_ O.gm hl hin hn k
 have lk:=fun k=>K5 (pl:=pl) (tm:=tm) (z:=z) (l:=l) li k
 have hk':=fun k=>j_ O.gm (Iw hl) (Iu hin) hf k
 have lk':=fun k=>K5 (pl:=pl) (tm:=tm) (z:=z) (l:=l.map Ar.turn) lf k
 have ad:=fun k=>agh O.gm hl hin hn li k fin hf lf
 refine N9 O (aaT O.gm hp hf) h1 ?_ ?_
 ·refine ae7 O hf hp lp h1 fun q hq => ?_
  have pf:=b_ O.gm.pz hf q;rw[O.gm.Gl (b_ O.gm.pz hp q) pf];refine ae5 O hl hin hn li pf h1 hq (n-1) fun k _ => ?_
  have pk:=b_ O.gm.pz (hk k) q;rw[O.gm.Gl pf pk];refine j5 O (O.gm.pt pk pf) (aaT O.gm (hk k) hf) h1 (ae6 O hf (hk k) lf (lk k) hq) ?_;rw[ad k];exact ae7 O (hk' k) hn li h1 fun q hq=>agj O hb hi hl hin hf lf hn n0 k q hq
 ·rcases h3 with h3|⟨_,g2,⟨g3,g4⟩,_⟩
  ·rw[h3];exact PY O (aaT O.gm hp hf)
  ·generalize hk0:(BST bt pl tm z n l bg fin).2.1=k0 at*;generalize hq0:(BST bt pl tm z n l bg fin).2.2=q0 at*;rw[g2];have pi:=b_ O.gm.pz hn q0;have pk:=aez O hl hin hf k0 q0;refine j5 O (O.gm.pt pi pk) (aaT O.gm hn (hk' k0)) (aaT O.gm hp hf) (ae6 O (hk' k0) hn (lk' k0) li g4) ?_;rw[<-ad k0];refine ae7 O hf (hk k0) (lk k0) (aaT O.gm hp hf) fun q hq => ?_
   have p1:=b_ O.gm.pz (hk k0) q;have p2:=b_ O.gm.pz hp q;have p3:=b_ O.gm.pz hf q;exact j5 O (O.gm.pt p1 p3) (O.gm.pt p2 p3) (aaT O.gm hp hf) (PZ O p1 p2 p3 (Iq O hl hin hn li (n-1) k0 q ae hq)) (ae6 O hf hp lf lp hq)
end
end ak3
inductive Chn (l:List (Ar α)):Nat->List Nat->Nat->Prop
 | nil {s:Nat}:Chn l s [] s
 | cons {s t i:Nat} {is:List Nat} {a:Ar α} (h:l[i]?=some a) (hf:a.f.toNat=s) (g:Chn l a.t.toNat is t):Chn l s (i::is) t
def awF (tm:α->α->α)(l:List (Ar α)):α->List Nat->α
 | so,[]=>so
 | so,i::is=>match l[i]? with
  | some a=>awF tm l (tm so a.x) is
  | none=>so
def agk:List Nat->List Nat->Prop
 | [],_=>True
 | _::_,[]=>False
 | a::r,b::s=>a<b\/a=b/\agk r s
def bpP (eq:α->α->Bool)(tm:α->α->α)(aaG:Nat->Nat->α)(w:α)(k:Nat)(so:α)(st:Nat)(a:Ar α):Bool:=decide (a.f.toNat=st)&&eq (tm (tm so a.x) (aaG k a.t.toNat)) w
def bp (eq:α->α->Bool)(tm:α->α->α)(l:List (Ar α))(aaG:Nat->Nat->α)(w:α):Nat->α->Nat->List Nat
 | 0,_,_=>[]
 | k+1,so,st=>match l.findIdx? (bpP eq tm aaG w k so st) with
  | some i=>match l[i]? with
   | some a=>i::bp eq tm l aaG w k (tm so a.x) a.t.toNat
   | none=>[]
  | none=>[]
section path
variable (hl:PA P l) (hin:∀ a ∈ l,a.f.toNat<n/\a.t.toNat<n) {fin:List α} (hf:∀ x ∈ fin,P x)
include O hl hin hf
omit O hin hf in
theorem akx (pt:∀ {x y},P x->P y->P (tm x y)):∀ {is:List Nat} {so:α},P so->P (awF tm l so is)
 | [],_,h=>h
 | i::is,so,h=>by
  unfold awF;split
  ·rename_i a ha;exact akx pt (pt h (hl a (Qa2 ha)))
  ·exact h
theorem ahJ {s t:Nat}{is:List Nat}(h:Chn l s is t):∀ {so:α},P so->lq pl (tm (awF tm l so is) (fin.getD t z)) (tm so (aaG pl tm z n l fin is.length s)):=by
 induction h with
 | @nil s =>
  intro so hs;exact xX O (O.gm.pt hs (b_ O.gm.pz hf _))
 | @cons s t i is a h hs g ih =>
  intro so ps;have ha:=Qa2 h;have pa:=hl a ha;have pk:=aez O hl hin hf is.length a.t.toNat;have pk1:=aez O hl hin hf (is.length+1) a.f.toNat;have e:awF tm l so (i::is)=awF tm l (tm so a.x) is:=by rw[awF,h]
  rw[e,Qf2,<-hs];refine j5 O (O.gm.pt (akx hl O.gm.pt (O.gm.pt ps pa)) (b_ O.gm.pz hf _)) (O.gm.pt (O.gm.pt ps pa) pk) (O.gm.pt ps pk1) (ih (O.gm.pt ps pa)) ?_;rw[O.gm.NN ps pa pk];exact acG O ps (O.gm.pt pa pk) pk1 (akw O hl hin hf ha is.length)
variable {eq:α->α->Bool} (heq:∀ {x y},P x->P y->(eq x y=true↔x=y)) {w:α} (pw:P w) (wz:w≠z)
include hb heq pw wz
theorem agl (k:Nat)(so:α)(st:Nat)(hst:st<n)(ps:P so)(hw:tm so (aaG pl tm z n l fin (k+1) st)=w) :
  ∃ i a,l.findIdx? (bpP eq tm (aaG pl tm z n l fin) w k so st)=some i/\l[i]?=some a/\a.f.toNat=st/\tm (tm so a.x) (aaG pl tm z n l fin k a.t.toNat)=w /\
   ∀ (j:Nat) (b:Ar α),j<i->l[j]?=some b->b.f.toNat=st->tm (tm so b.x) (aaG pl tm z n l fin k b.t.toNat)≠w:=by
 have key:∀ a ∈ l,(bpP eq tm (aaG pl tm z n l fin) w k so st a=true↔a.f.toNat=st/\tm (tm so a.x) (aaG pl tm z n l fin k a.t.toNat)=w):=fun a ha=>by
  unfold bpP;rw[Qd0,decide_eq_true_eq,heq (O.gm.pt (O.gm.pt ps (hl a ha)) (aez O hl hin hf _ _)) pw]
 obtain⟨a,ha,hp⟩:∃ a ∈ l,bpP eq tm (aaG pl tm z n l fin) w k so st a=true:=by
  rcases alK O hb hl hin hf k st hst with h|⟨a,ha,h1,h2⟩
  ·rw[h,O.gm.Xl ps]at hw;exact absurd hw.symm wz
  ·refine⟨a,ha,(key a ha).2 ⟨h1,?_⟩⟩;rw[O.gm.NN ps (hl a ha) (aez O hl hin hf _ _),<-h2];exact hw
 cases hfi:l.findIdx? (bpP eq tm (aaG pl tm z n l fin) w k so st) with
 | none =>
  rw[Xj1]at hfi;rw[hfi a ha]at hp;cases hp
 | some i =>
  obtain⟨h1,h2,h3⟩:=Qu2.1 hfi;obtain⟨g1,g2⟩:=(key _ (Qi0 h1)).1 h2;refine⟨i,l[i],rfl,Qa1 h1,g1,g2,fun j b hj hb' hs he => ?_⟩;obtain⟨hjl,rfl⟩:=Qy1.1 hb';exact h3 j hj ((key _ (Qi0 hjl)).2 ⟨hs,he⟩)
theorem ae_:∀ (k:Nat) (so:α) (st:Nat),st<n->P so->tm so (aaG pl tm z n l fin k st)=w ->
  ∃ t,Chn l st (bp eq tm l (aaG pl tm z n l fin) w k so st) t/\(bp eq tm l (aaG pl tm z n l fin) w k so st).length=k/\tm (awF tm l so (bp eq tm l (aaG pl tm z n l fin) w k so st)) (fin.getD t z)=w /\
   ∀ is t',Chn l st is t'->is.length=k->tm (awF tm l so is) (fin.getD t' z)=w->agk (bp eq tm l (aaG pl tm z n l fin) w k so st) is
 | 0,so,st,_,_,hw=>⟨st,.nil,rfl,hw,fun _ _ _ _ _=>trivial⟩
 | k+1,so,st,hst,ps,hw=>by
  obtain⟨i,a,h1,h2,h3,h4,h5⟩:=agl O hb hl hin hf heq pw wz k so st hst ps hw;have ha:=Qa2 h2;have pa:=hl a ha;obtain⟨t,g1,g2,g3,g4⟩:=ae_ k (tm so a.x) a.t.toNat (hin a ha).2 (O.gm.pt ps pa) h4;have e:bp eq tm l (aaG pl tm z n l fin) w (k+1) so st=i::bp eq tm l (aaG pl tm z n l fin) w k (tm so a.x) a.t.toNat:=by
   rw[bp,h1];simp only[h2]
  rw[e];refine⟨t,.cons h2 h3 g1,by rw[Qf2,g2],?_,fun is t' hc hlen he => ?_⟩
  ·rw[awF,h2];exact g3
  ·cases hc with
   | nil=>cases hlen
   | @cons _ _ j is' b hj hs hg =>
    have hb':=Qa2 hj;have pb:=hl b hb';have hlen':is'.length=k:=by simpa using hlen
    have he':tm (awF tm l (tm so b.x) is') (fin.getD t' z)=w:=by rw[awF,hj]at he;exact he
    have pk:=aez O hl hin hf k b.t.toNat;have pk1:=aez O hl hin hf (k+1) b.f.toNat;have q1:=ahJ O hl hin hf hg (O.gm.pt ps pb);rw[hlen',he']at q1;have q2:lq pl (tm (tm so b.x) (aaG pl tm z n l fin k b.t.toNat)) w:=by
     rw[<-hw,<-hs,O.gm.NN ps pb pk];exact acG O ps (O.gm.pt pb pk) pk1 (akw O hl hin hf hb' k)
    have q3:=N9 O (O.gm.pt (O.gm.pt ps pb) pk) pw q2 q1;rcases Nat.lt_trichotomy i j with h|h|h
    ·exact .inl h
    ·refine .inr ⟨h,?_⟩;subst h;rw[h2]at hj;cases hj;exact g4 is' t' hg hlen' he'
    ·exact absurd q3 (h5 j b h hj hs)
end path
end
end Fi.S
noncomputable section
namespace Fi.S
open Go Fi
set_option maxHeartbeats 8000000
set_option maxRecDepth 10000
variable {α:Type} {e:α->W}
def bsL:aF:=f1716.body.r.r.l.r.bl.lp
def bsI:aF:=bsL.r.r.l.bl.r.r.bl.lp
def bsS (lss row:List D)(n k q k0 q0:Nat)(t:FV)(L:List ah):St :=
 (st0 [.u,.u,rL 0,rL 1,dI k0,dI q0,dI k,.u,.u,.u,.u,.d (.s 1 lss),dI n,dI k,.u,.d (.s 8 row),dI n,dI q,t,.u] L)
theorem ahK (kk:Int)(ps:List Int)(sy st:Int)(bg:List α)(fin es lss:List D)(n k q k0 q0:Nat)(hq:q<n)(hn:n<=100000)(row:List α)(i x y w:α)(hi:bg[q]?=some i)(hx:row[q]?=some x)(b:Bool)
  (c1:Ca E1 13 [.d (aU kk ps),.d (e i).d,.d (e x).d] (.d (e y).d,none)) (c2:Ca E1 24 [.d (aU kk ps),.d (e y).d,.d (e w).d] (dB b,none))
  (L:List ah) (h0:L[0]?=some (bu kk ps sy st (bg.map fun x=>(e x).d) fin es)) (h1:L[1]?=some (Ik (e w))) :
  Ex E1 bsI (bsS lss (row.map fun x=>(e x).d) n k q k0 q0 .u L)
   (.norm,bsS lss (row.map fun x=>(e x).d) n k (q+1) (if b then k else k0) (if b then q else q0) .u ((if b then L.set 1 (Ik (e y)) else L)++[Ik (e x),Ik (e y)])):=by
 obtain⟨K,hK,t1,t2⟩:=(c1.j c2.any).at 0;have e1:(row.map fun x=>(e x).d)[q]?=some (e x).d:=by simp[hx]
 have e2:(bg.map fun x=>(e x).d)[q]?=some (e i).d:=by simp[hi]
 generalize (row.map fun x=>(e x).d)=rd,(bg.map fun x=>(e x).d)=is at*;have q0':(0:Int)<=(q:Int):=ae;have hqn:(q:Int)<(n:Int):=ae;have aW:ak .i64 ((q:Int)+1)=(q:Int)+1:=wrap_i64 ae;have hk1:((q+1:Nat):Int)=(q:Int)+1:=ae;have l0:0<L.length:=(aT h0)
 have l1:1<L.length:=(aT h1)
 obtain⟨vs,Hz,HV,vc,vb,vu,vp,vq,ex⟩:=(e x).aH;obtain⟨zs,wS,wT,zc,zb,zu,zp,zq,ey⟩:=(e y).aH;obtain⟨rs,rl1,rl2,rc,rb,ru,rp,rq,ei⟩:=(e i).aH;obtain⟨us,ul1,ul2,uc,ub,uu,up,uq,ew⟩:=(e w).aH;unfold Ik at*;rw[ex]at e1 t1 ⊢;rw[ei]at e2 t1;rw[ey]at t1 t2 ⊢;rw[ew]at h1 t2;have g0:∀ X,(L++X)[0]?=some (bu kk ps sy st is fin es):=fun X=>by rw[Qa0 l0];exact h0
 have g1:=fun X=>(Qa0 (l₂:=X) l1).trans h1
 have hg:∀ b:ah,∀ X,(L++b::X)[L.length]?=some b:=fun b X=>by simp
 have sA:∀ b b':ah,(L++[b]).set L.length b'=L++[b']:=fun b b'=>by simp
 have sB:∀ c b b':ah,(L++[c,b]).set (L.length+1) b'=L++[c,b']:=fun c b b'=>by simp
 have hg2:∀ c b:ah,(L++[c,b])[L.length+1]?=some b:=fun c b=>by simp
 have s1:∀ X r,(L++X).set 1 r=L.set 1 r++X:=fun X r=>Qq2 _ _ l1
 clear ex ei ey ew c1 c2 hK hi hx;unfold bu aU wD at*;simp only[D.cells,Qe2,Qc2]at*;have i1:=idx e1;have i2:=idx e2;have q1:q<rd.length:=(aT e1)
 have q2:q<is.length:=(aT e2)
 have j0:=fun X=>idx (g0 X)
 have j1:=fun X=>idx (g1 X)
 have j2:=idx h0;have j3:=idx h1;refine Ex.of (n:=K+400) ?_;unfold bsS;rw[hk1];cases b<;>simp (maxSteps:=400000) [bsI,bsL,f1716,t1,t2,q0',hqn,aW,e1,e2,i1,i2,q1,q2,g0,g1,h0,h1,hg,hg2,sA,sB,s1,l0,l1,j0,j1,j2,j3]
theorem ajU (lss row:List D)(n k k0 q0:Nat)(L:List ah):Ex E1 bsI (bsS lss row n k n k0 q0 .u L) (.exit 2,bsS lss row n k n k0 q0 (dB false) L):=by
 apply e6;unfold bsS;simp[bsI,bsL,f1716]
def bqS (lss:List D)(n k k0 q0:Nat)(t:FV)(L:List ah):St :=
 (st0 [.u,.u,rL 0,rL 1,dI k0,dI q0,.u,.u,.u,.u,.u,.d (.s 1 lss),dI n,dI k,t,.u,.u,.u,.u,.u] L)
theorem ahL (lss row:List D)(n k k0 q0 k1 q1:Nat)(hn:n<=100000)(hk:k<n)(hrow:lss[k]?=some (.s 8 row))(hl:row.length=n)(L L':List ah)
  (h:Ex E1 (.loop bsI) (bsS lss row n k 0 k0 q0 .u L) (.exit 2,bsS lss row n k n k1 q1 (dB false) L')):Ex E1 bsL (bqS lss n k k0 q0 .u L) (.norm,bqS lss n (k+1) k1 q1 .u L'):=by
 have hkn:(k:Int)<(n:Int):=ae;have hk0:(0:Int)<=(k:Int):=ae;have aW:ak .i64 ((k:Int)+1)=(k:Int)+1:=wrap_i64 ae;have hk1:((k+1:Nat):Int)=(k:Int)+1:=ae;have i1:=idx hrow;have q1':k<lss.length:=(aT hrow)
 have s1:Ex E1 bsL.l (bqS lss n k k0 q0 .u L) (.norm,bqS lss n k k0 q0 (dB true) L):=by
  apply e6;unfold bqS;clear h;simp[bsL,f1716,hkn]
 have s2 := nx s1 bsL.r.l (bqS lss n k k0 q0 (dB true) L) (by
  apply e6;unfold bqS;clear h;simp[bsL,f1716])
 have s3 := nx s2 bsL.r.r.l.bl.l (st0 [.u,.u,rL 0,rL 1,dI k0,dI q0,dI k,.d (.s 8 row),.u,.u,.u,.d (.s 1 lss),dI n,dI k,.u,.u,.u,.u,.u,.u] L) (by
  apply e6;unfold bqS;clear h;simp[bsL,f1716,hk0,hrow,i1,q1'])
 have s4 := nx s3 bsL.r.r.l.bl.r.l (bsS lss row n k 0 k0 q0 .u L) (by
  apply e6;unfold bsS;rw[show((0:Nat):Int)=0 from rfl];clear h;simp[bsL,f1716,hl])
 have s5:Ex E1 bsL.r.r.r (bsS lss row n k n k1 q1 (dB false) L') (.norm,bqS lss n (k+1) k1 q1 .u L'):=by
  apply e6;unfold bsS bqS;rw[hk1];clear h;simp[bsL,f1716,aW]
 exact s1.seq (s2.seq ((Ex.eZ (s3.seq (s4.seq (Ex.block h)))).seq s5))
theorem ajV (lss:List D)(n k0 q0:Nat)(L:List ah):Ex E1 bsL (bqS lss n n k0 q0 .u L) (.exit 0,bqS lss n n k0 q0 (dB false) L):=by
 apply e6;unfold bqS;simp[bsL,f1716]
def bsF (bt:α->α->Bool)(y:Nat × Nat->α)(m:Nat)(acc:α × Nat × Nat)(k:Nat):α × Nat × Nat:=(List.range m).foldl (fun acc q=>bs1 bt y acc (k,q)) acc
theorem ahM (bt:α->α->Bool)(z:α)(y:Nat × Nat->α)(n m:Nat):acs bt z y n m=(List.range n).foldl (bsF bt y m) (z,0,0):=by
 unfold acs prs bsF;rw[List.foldl_flatMap]
 congr 1
 funext acc k
 rw[List.foldl_map]
theorem ajY (kk:Int)(ps:List Int)(sy:Int)(n:Nat)(hn:n<=100000)(bg:List α)(fin es:List D)(V:Nat->List α)(hV:∀ k,(V k).length=n)(hi:bg.length=n)(bt:α->α->Bool)(tm:α->α->α)(z:α)(G:α->Prop)(gz:G z)(gy:∀ k q,k<n->q<n->G (tm (bg.getD q z) ((V k).getD q z)))
  (hz:Ca E1 26 [.d (aU kk ps)] (.d (e z).d,none)) (hc:∀ k q,k<n->q<n->Ca E1 13 [.d (aU kk ps),.d (e (bg.getD q z)).d,.d (e ((V k).getD q z)).d] (.d (e (tm (bg.getD q z) ((V k).getD q z))).d,none))
  (hb:∀ k q w,k<n->q<n->G w->Ca E1 24 [.d (aU kk ps),.d (e (tm (bg.getD q z) ((V k).getD q z))).d,.d (e w).d] (dB (bt (tm (bg.getD q z) ((V k).getD q z)) w),none))
  (r:α × Nat × Nat) (hr:r=acs bt z (fun p=>tm (bg.getD p.2 z) ((V p.1).getD p.2 z)) n n) :
  Ca E1 1716 [.d (jh kk ps sy n (bg.map fun x=>(e x).d) fin es),.d (.s 1 ((List.range n).map fun k=>.s 8 ((V k).map fun x=>(e x).d)))] (.d (.t [(e r.1).d,vI r.2.1,vI r.2.2]),none):=by
 obtain⟨bx,hbx⟩:∃ bx,bx=bu kk ps sy n (bg.map fun x=>(e x).d) fin es:=⟨_,rfl⟩
 obtain⟨lss,abL⟩:∃ lss,lss=(List.range n).map fun k=>D.s 8 ((V k).map fun x=>(e x).d):=⟨_,rfl⟩
 have hrow:∀ k,k<n->lss[k]?=some (.s 8 ((V k).map fun x=>(e x).d)):=fun k hk=>by rw[abL];simp[hk]
 have hll:lss.length=n:=by rw[abL];simp
 have hrl:∀ k,((V k).map fun x=>(e x).d).length=n:=fun k=>by rw[Qj1,hV]
 rw[<-abL];clear abL;rw[ahM]at hr;obtain⟨Y,hY⟩:∃ Y:Nat × Nat->α,Y=fun p=>tm (bg.getD p.2 z) ((V p.1).getD p.2 z):=⟨_,rfl⟩
 have hYp:∀ k q,tm (bg.getD q z) ((V k).getD q z)=Y (k,q):=fun k q=>by rw[hY]
 simp only[hYp]at gy hc hb;rw[<-hY]at hr;clear hYp hY;obtain⟨s,k1,L,k2,k3,k4,_⟩:=Ex.fold (E:=E1) (b:=bsL) (List.range n) (bsF bt Y n) ((z,0,0):α × Nat × Nat)
  (fun j acc s=>∃ L,s=bqS lss n j acc.2.1 acc.2.2 .u L/\L[0]?=some bx/\L[1]?=some (Ik (e acc.1))/\G acc.1)
  (fun acc q=>∃ L,q=(.exit 0,bqS lss n n acc.2.1 acc.2.2 (dB false) L)/\L[0]?=some bx/\L[1]?=some (Ik (e acc.1))/\G acc.1)
  (fun k k' s hk' ⟨L,hs,g1,g2,g3⟩=>by
   subst hs;have hk:k<n:=by simpa using(aT hk')
   obtain rfl:k=k':=by
    rw[Xs0 hk]at hk';simpa using hk'
   generalize ((List.range n).take k).foldl (bsF bt Y n) (z,0,0)=ac at*;obtain⟨s',m1,L',m2,m3,m4,m5⟩:=Ex.fold (E:=E1) (b:=bsI) (List.range n) (fun acc q=>bs1 bt Y acc (k,q)) ac
    (fun j acc s=>∃ L,s=bsS lss ((V k).map fun x=>(e x).d) n k j acc.2.1 acc.2.2 .u L/\L[0]?=some bx/\L[1]?=some (Ik (e acc.1))/\G acc.1)
    (fun acc r=>∃ L,r=(.exit 2,bsS lss ((V k).map fun x=>(e x).d) n k n acc.2.1 acc.2.2 (dB false) L)/\L[0]?=some bx/\L[1]?=some (Ik (e acc.1))/\G acc.1)
    (fun q q' s hq' ⟨L,hs,g1,g2,g3⟩=>by
     subst hs;have hq:q<n:=by simpa using(aT hq')
     obtain rfl:q=q':=by
      rw[Xs0 hq]at hq';simpa using hq'
     have l1:1<L.length:=(aT g2)
     generalize ((List.range n).take q).foldl (fun acc q=>bs1 bt Y acc (k,q)) ac=ad at*;have b:=ahK (e:=e) kk ps sy n bg fin es lss n k q ad.2.1 ad.2.2 hq hn (V k) _ _ _ _ (getD_at (z:=z) ae) (getD_at (z:=z) (by rw[hV];exact hq)) _ (hc k q hk hq) (hb k q _ hk hq g3) L (hbx ▸ g1) g2;have e1:bs1 bt Y ad (k,q)=if bt (Y (k,q)) ad.1 then(Y (k,q),k,q) else ad:=rfl
     refine⟨_,b,?_⟩;rw[e1];cases bt (Y (k,q)) ad.1 with
     | true=>exact⟨_,rfl,by rw[if_pos rfl,Qa0 (by simp;omega),Qb2 ae];exact g1,by rw[if_pos rfl,Qa0 (by simpa using l1),Qd1 l1];rfl,gy k q hk hq⟩
     | false=>exact⟨_,rfl,by rw[if_neg aC,Qa0 ae];exact g1,by rw[if_neg aC,Qa0 l1];exact g2,g3⟩)
    (fun s ⟨L,hs,g1,g2,g3⟩=>by
     subst hs;rw[Xx2];exact⟨_,ajU lss _ n k _ _ L,aC,L,rfl,g1,g2,g3⟩) (st:=bsS lss ((V k).map fun x=>(e x).d) n k 0 ac.2.1 ac.2.2 .u L) ⟨L,rfl,g1,g2,g3⟩
   subst m2;exact⟨_,ahL lss _ n k _ _ _ _ hn hk (hrow k hk) (hrl k) L L' m1,L',rfl,m3,m4,m5⟩)
  (fun s ⟨L,hs,g1,g2,g3⟩=>by
   subst hs;rw[Xx2];exact⟨_,ajV lss n _ _ L,aC,L,rfl,g1,g2,g3⟩) (st:=bqS lss n 0 0 0 .u [bx,Ik (e z)]) ⟨_,rfl,rfl,rfl,gz⟩
 subst k2;rw[<-hr]at k1 k4;obtain⟨N,t⟩:=hz.get;clear hc hb gy gz hz hrow hr;have sA:Ex E1 f1716.body.l (st0 [.d (jh kk ps sy n (bg.map fun x=>(e x).d) fin es),.d (.s 1 lss),.u,.u,.u,.u,.u,.u,.u,.u,.u,.u,.u,.u,.u,.u,.u,.u,.u,.u] [])
   (.norm,(st0 (.u::.d (.s 1 lss)::rL 0::rL 1::dI 0::dI 0::Ma) [bx,.box [dB false,.d (.n 1),.d (.n 1),dI 0,dB false,.d (.v (.int .u64 0)),.d (.n 6),.d (.n 8)]])):=by
  apply e6;clear k1 t;rw[hbx];unfold jh bu;simp[f1716]
 have sB := nx sA f1716.body.r.l (st0 (.u::.d (.s 1 lss)::rL 0::rL 1::dI 0::dI 0::Ma) [bx,Ik (e z)]) (by
  refine Ex.of (n:=N+60) ?_;clear k1;rw[hbx];obtain⟨zs,wS,wT,zc,zb,zu,zp,zq,ez⟩:=(e z).aH;unfold bu Ik;rw[ez]at t ⊢;unfold aU wD at*;simp only[D.cells,Qe2,Qc2];simp[f1716,t])
 have sC := nx sB f1716.body.r.r.l.l (bqS lss n 0 0 0 .u [bx,Ik (e z)]) (by
  apply e6;clear k1 t;unfold bqS;rw[show((0:Nat):Int)=0 from rfl];simp[f1716,hll])
 have sE:∃ st',Ex E1 f1716.body.r.r.r (bqS lss n n r.2.1 r.2.2 (dB false) L) (.ret,st')/\finish f1716 st'=some (.d (.t [(e r.1).d,vI r.2.1,vI r.2.2]),none):=by
  clear k1 sA sB sC t;have l1:1<L.length:=(aT k4)
  obtain⟨zs,wS,wT,zc,zb,zu,zp,zq,ez⟩:=(e r.1).aH;unfold Ik at k4;rw[ez]at k4 ⊢;unfold wD at*;simp only[D.cells,Qe2,Qc2]at k4;have i1:=idx k4;obtain⟨r1,r2,r3⟩:=r;refine⟨_,Ex.of (n:=60) (by unfold bqS;simp[f1716,k4,i1,l1];rfl),?_⟩;simp[finish,fD,show f1716.res=[.cell 3 true 8,.var 4,.var 5] from rfl,show f1716.ref=false from rfl,k4,i1,l1,rH,jN]
 obtain⟨st',e1,e2⟩:=sE;exact Ca.body (o:=.ret) rfl (aO 1716 f1716:E1.fn _=_) rfl (sA.seq (sB.seq ((Ex.seq sC (Ex.block k1)).seq e1))) aC e2
end Fi.S
noncomputable section
namespace Fi.S
open Go Fi
set_option maxHeartbeats 8000000
set_option maxRecDepth 10000
variable {α:Type} {e:α->W}
theorem ahN (kk:Int)(ps:List Int)(sy st:Int)(bg fin es lss row:List D)(a:Ar α)(so w p vt u:α)(sq k t:Nat)(ht:a.t=(t:Int))(f0:0<=a.f)(hrow:lss[k]?=some (.s 8 row))(hvt:row[t]?=some (e vt).d)(b:Bool)
  (c1:Ca E1 13 [.d (aU kk ps),.d (e so).d,.d (e a.x).d] (.d (e p).d,none)) (c2:Ca E1 13 [.d (aU kk ps),.d (e p).d,.d (e vt).d] (.d (e u).d,none)) (c3:Ca E1 34 [.d (e u).d,.d (e w).d] (dB b,none))
  (ra rs rq rl rk rw:Nat) (B:List ah) (ha:B[ra]?=some (bu kk ps sy st bg fin es)) (hs:B[rs]?=some (Ik (e so))) (hq:B[rq]?=some (.box [dI sq])) (hl:B[rl]?=some (.box [.d (.s 1 lss)])) (hk:B[rk]?=some (.box [dI k])) (hw:B[rw]?=some (Ik (e w))) :
  ∃ N,∀ m,CL E1 (N+m) 1718 [.d (a.d e),.r (.old ra) 0,.r (.old rs) 0,.r (.old rq) 0,.r (.old rl) 0,.r (.old rk) 0,.r (.old rw) 0] B=some (dB (decide (a.f.toNat=sq)&&b),none):=by
 obtain⟨N1,t1⟩:=c1.any;obtain⟨N2,t2⟩:=c2.any;obtain⟨N3,t3⟩:=c3.any;obtain⟨K,hK⟩:∃ K,K=N1+N2+N3:=⟨_,rfl⟩
 refine⟨K+200,fun m => ?_⟩;have z0:∀ {r:Nat} {o:ah},B[r]?=some o->r<B.length/\∀ X,(B++X)[r]?=some o:=fun h=>by
  have l:=(aT h)
  exact⟨l,fun X=>by rw[Qa0 l];exact h⟩
 obtain⟨xs,Y6,Y7,xc,xb,xu,xp,xq,ew,ex⟩:=a.iA e;obtain⟨vs,Hz,HV,vc,vb,vu,vp,vq,eso⟩:=(e so).aH;obtain⟨zs,wS,wT,zc,zb,zu,zp,zq,ep⟩:=(e p).aH;obtain⟨rs',rl1,rl2,rc,rb,ru,rp,rq',evt⟩:=(e vt).aH;obtain⟨us,ul1,ul2,uc,ub,uu,up,uq,eu⟩:=(e u).aH;obtain⟨ws,TC,TD,wc,wb,wu,wp,wq,eww⟩:=(e w).aH;unfold Ik at hs hw;rw[ew,eso,ep]at t1;rw[ep,evt,eu]at t2;rw[eu,eww]at t3;rw[eso]at hs;rw[eww]at hw;rw[evt]at hvt;rw[ex,ht];unfold bu at ha;unfold aU wD rV at*;simp only[D.cells,Qe2,Qc2]at hs hw;obtain⟨la,ga⟩:=z0 ha;obtain⟨ls,gs⟩:=z0 hs;obtain⟨lq,gq⟩:=z0 hq;obtain⟨ll,gl⟩:=z0 hl;obtain⟨lk,gk⟩:=z0 hk;obtain⟨lw,gw⟩:=z0 hw;have k0:(0:Int)<=(k:Int):=ae;have t0:(0:Int)<=(t:Int):=ae;have i1:=idx hrow;have i2:=idx hvt;have q1:k<lss.length:=(aT hrow)
 have q2:t<row.length:=(aT hvt)
 have w1:ak .i64 1=1:=wrap_i64 ae;clear c1 c2 c3 ew eso ep evt eu eww ex z0 ha hs hq hl hk hw;rw[show K+200+m=(K+m)+200 by omega,aA rfl (aO 1718 f1718:E1.fn _=_) rfl];replace t1:=fun j=>t1 (K+m+j) ae 0
 replace t2:=fun j=>t2 (K+m+j) ae 0
 replace t3:=fun j=>t3 (K+m+j) ae 0
 simp only[Q52]at t1 t2 t3
 by_cases hf:a.f=(sq:Int)
 ·have e1:decide (a.f.toNat=sq)=true:=by rw[hf];simp
  rw[e1,Qs1,hf];simp (maxSteps:=400000) [f1718,t1,t2,t3,ga,gs,gq,gl,gk,gw,la,ls,lq,ll,lk,lw,k0,t0,hrow,hvt,i1,i2,q1,q2]
 ·have e1:decide (a.f.toNat=sq)=false:=by simp;omega
  have e2:(a.f==(sq:Int))=false:=by simpa using hf
  rw[e1,Q60];simp (maxSteps:=400000) [f1718,t1,ga,gs,gq,gl,gk,gw,la,ls,lq,ll,lk,lw,hf,e2]
def iyS (g r1 r2 r3 r4 r5 r6:Nat)(es:List D)(B:List ah)(j:Nat)(t:FV):St :=
 {vars:=[.d (.s 11 es),.f g [] [.r (.old r1) 0,.r (.old r2) 0,.r (.old r3) 0,.r (.old r4) 0,.r (.old r5) 0,.r (.old r6) 0],.u,.u,dI es.length,dI j,t,.u],base:=B,loc:=[],aX:=false}
theorem ag4 (g r1 r2 r3 r4 r5 r6:Nat)(aq:List (Ar α))(p:Ar α->Bool)(B:List ah)(hO:∀ n,B.map (ah.az n)=B)(hn:aq.length<=1000000)(hc:∀ a ∈ aq,∃ N,∀ m,CL E1 (N+m) g [.d (a.d e),.r (.old r1) 0,.r (.old r2) 0,.r (.old r3) 0,.r (.old r4) 0,.r (.old r5) 0,.r (.old r6) 0] B=some (dB (p a),none)) :
  ∃ N,∀ m,CL E1 (N+m) 1105 [.d (.s 11 (aq.map (Ar.d e))),.f g [] [.r (.old r1) 0,.r (.old r2) 0,.r (.old r3) 0,.r (.old r4) 0,.r (.old r5) 0,.r (.old r6) 0]] B=some (.d (.v (.int .i64 (match aq.findIdx? p with|some j=>(j:Int)|none=>-1))),none):=by
 have hl:(aq.map (Ar.d e)).length=aq.length:=aC;have hloop:=Ex.DV (E:=E1) (b:=ixL) aq p (fun j=>iyS g r1 r2 r3 r4 r5 r6 (aq.map (Ar.d e)) B j .u) (.exit 0,iyS g r1 r2 r3 r4 r5 r6 (aq.map (Ar.d e)) B aq.length (dB false)) (fun j=>(.ret,{vars:=(.u::.u::dI j::n_),base:=B,loc:=[],aX:=false})) aC aC
  (fun j a ha=>by
   obtain⟨N,t⟩:=hc a (Qa2 ha);have hj:j<aq.length:=(aT ha)
   have hjn:(j:Int)<(aq.length:Int):=ae;have hj0:(0:Int)<=(j:Int):=ae;have aW:ak .i64 ((j:Int)+1)=(j:Int)+1:=wrap_i64 ae;have hk1:((j+1:Nat):Int)=(j:Int)+1:=ae;have e1:(aq.map (Ar.d e))[j]?=some (a.d e):=by simp[ha]
   obtain⟨s,l1,l2,c,i,u,q,ps,_,ex⟩:=a.iA e;rw[ex]at t e1;unfold rV at*;generalize aq.map (Ar.d e)=es at*;have i0:=idx e1;generalize p a=pa at*;refine Ex.of (n:=N+100) ?_;have jJ:j<es.length:=(aT e1)
   have hjl:(j:Int)<(es.length:Int):=ae;unfold iyS;cases pa
   ·rw[if_neg aC,hk1];simp[ixL,f1105,t,hj0,hjn,jJ,hjl,aW,e1,i0,hO,FV.az,FV.aP]
   ·rw[if_pos rfl];simp[ixL,f1105,t,hj0,hjn,jJ,hjl,e1,i0,hO,FV.az,FV.aP])
  (by
   apply e6;unfold iyS;generalize aq.map (Ar.d e)=es at*;rw[<-hl];generalize es.length=n at*;simp[ixL,f1105])
 have h0:Ex E1 f1105.body.l (iyS g r1 r2 r3 r4 r5 r6 (aq.map (Ar.d e)) B 0 .u |> fun s=>{s with vars:=(.d (.s 11 (aq.map (Ar.d e)))::.f g [] [.r (.old r1) 0,.r (.old r2) 0,.r (.old r3) 0,.r (.old r4) 0,.r (.old r5) 0,.r (.old r6) 0]::uV)}) (.norm,iyS g r1 r2 r3 r4 r5 r6 (aq.map (Ar.d e)) B 0 .u |> fun s=>{s with vars:=(.d (.s 11 (aq.map (Ar.d e)))::.f g [] [.r (.old r1) 0,.r (.old r2) 0,.r (.old r3) 0,.r (.old r4) 0,.r (.old r5) 0,.r (.old r6) 0]::uV)}):=by
  apply e6;unfold iyS;simp[f1105]
 have h1 := nx h0 f1105.body.r.l.l (iyS g r1 r2 r3 r4 r5 r6 (aq.map (Ar.d e)) B 0 .u) (by
  apply e6;unfold iyS;simp[f1105])
 cases hf:aq.findIdx? p with
 | some j =>
  rw[hf]at hloop;exact qN (E:=E1) (g:=1105) (F:=f1105) (B:=B) rfl (k1105:E1.fn _=_) rfl (Ex.seq h0 (Ex.gp (Ex.seq h1 (Ex.dR hloop)))) aC (by simp[finish,mo,GY,show f1105.res=[.var 2] from rfl,show f1105.ref=false from rfl,gN,leaves,fD,oneOf,kJ,D.norm,FV.rows,FV.om,aK])
 | none =>
  rw[hf]at hloop;have h2:Ex E1 f1105.body.r.r (iyS g r1 r2 r3 r4 r5 r6 (aq.map (Ar.d e)) B aq.length (dB false)) (.ret,{vars:=(.u::.u::dI (-1)::n_),base:=B,loc:=[],aX:=false}):=by
   apply e6;unfold iyS;simp[f1105]
  exact qN (E:=E1) (g:=1105) (F:=f1105) (B:=B) rfl (k1105:E1.fn _=_) rfl (Ex.seq h0 (Ex.seq (Ex.seq h1 (Ex.block hloop)) h2)) aC (by simp[finish,mo,GY,show f1105.res=[.var 2] from rfl,show f1105.ref=false from rfl,gN,leaves,fD,oneOf,kJ,D.norm,FV.rows,FV.om,aK])
end Fi.S
noncomputable section
namespace Fi.S
open Go Fi
set_option maxHeartbeats 8000000
set_option maxRecDepth 10000
variable {α:Type} {e:α->W}
def beL:aF:=f1717.body.r.r.r.r.r.r.r.r.l.r.bl.lp
def beS (word:FV)(kx:Nat)(v12 v13 v16 v17:FV)(L:List ah):St :=
 (st0 [.u,rL 0,rL 1,word,.u,rL 2,rL 3,.u,.u,rL 4,rL 5,rL kx,v12,v13,.u,.u,v16,v17,.u] L)
def sj (start:Nat)(px:FV)(w:W):ah:=.box (dI start::px::w.d.cells.map .d)
abbrev kB (k:Int):ah:=.box [dI k]
theorem agm (word:FV)(kx:Nat)(k:Int)(L:List ah)(hk:L[kx]?=some (kB k)):Ex E1 beL.l (beS word kx .u .u .u .u L) (if 0<=k then .norm else .exit 0,beS word kx .u .u (dB (decide (0<=k))) .u L):=by
 have i1:=idx hk;have l1:kx<L.length:=(aT hk)
 apply e6;unfold beS
 by_cases h:0<=k
 ·have h2:decide (0<=k)=true:=by simpa using h
  rw[if_pos h];simp[beL,f1717,hk,i1,l1,h,h2]
 ·have h2:decide (0<=k)=false:=by simpa using h
  rw[if_neg h];simp[beL,f1717,hk,i1,l1,h,h2]
theorem ane (word:FV)(kx:Nat)(kk:Int)(ps:List Int)(sy st:Int)(bg fin es:List D)(L:List ah)(h0:L[0]?=some (bu kk ps sy st bg fin es))(i:Nat)
  (h:∃ N,∀ m,CL E1 (N+m) 1105 [.d (.s 11 es),.f 1718 [] [.r (.old 0) 0,.r (.old 4) 0,.r (.old 5) 0,.r (.old 2) 0,.r (.old kx) 0,.r (.old 3) 0]] (L.map (ah.az 0))=some (dI i,none)) :
  Ex E1 beL.r.l.bl.l (beS word kx .u .u (dB true) .u L) (.norm,beS word kx (dI i) .u .u .u L):=by
 obtain⟨N,t⟩:=h;have l0:0<L.length:=(aT h0)
 unfold bu at h0;have i0:=idx h0;refine Ex.of (n:=N+100) ?_;unfold beS;simp[beL,f1717,t,h0,i0,l0,FV.az,FV.aP]
theorem anf (word:FV)(kx:Nat)(kk:Int)(ps:List Int)(sy st:Int)(bg fin:List D)(aJ:List (Ar α))(L:List ah)(h0:L[0]?=some (bu kk ps sy st bg fin (aJ.map (Ar.d e))))(i:Nat)(a:Ar α)(ha:aJ[i]?=some a) :
  Ex E1 beL.r.l.bl.r.l (beS word kx (dI i) .u .u .u L) (.norm,beS word kx (dI i) (rL L.length) .u .u (L++[acJ e a])):=by
 have e1:(aJ.map (Ar.d e))[i]?=some (a.d e):=by simp[ha]
 have l0:0<L.length:=(aT h0)
 have sA:∀ b b':ah,(L++[b]).set L.length b'=L++[b']:=fun b b'=>by simp
 have hg:∀ b:ah,(L++[b])[L.length]?=some b:=fun b=>by simp
 have ii:(0:Int)<=(i:Int):=ae;obtain⟨s,k1,k3,c,b,u',q,ps',ew,ed⟩:=a.iA e;unfold acJ;rw[ed]at e1 ⊢;unfold bu rV at*;generalize aJ.map (Ar.d e)=es at*;simp only[D.cells,Qe2,Qc2];have i0:=idx h0;have i1:=idx e1;have q1:i<es.length:=(aT e1)
 refine Ex.of (n:=100) ?_;unfold beS;clear ew ed;simp[beL,f1717,h0,i0,l0,e1,i1,q1,ii,sA,hg]
theorem ang (word:FV)(kx xb:Nat)(v12:FV)(kk:Int)(ps:List Int)(sy st:Int)(bg fin es:List D)(L:List ah)(h0:L[0]?=some (bu kk ps sy st bg fin es))(a:Ar α)(so p:α)(s0:Int)(h4:L[4]?=some (Ik (e so)))(h5:L[5]?=some (kB s0))(hx:L[xb]?=some (acJ e a))(x6:6<=xb)
  (c1:Ca E1 13 [.d (aU kk ps),.d (e so).d,.d (e a.x).d] (.d (e p).d,none)) :
  Ex E1 beL.r.l.bl.r.r.l (beS word kx v12 (rL xb) .u .u L) (.norm,beS word kx v12 (rL xb) .u .u ((L.set 4 (Ik (e p))).set 5 (kB a.t))):=by
 obtain⟨N,t⟩:=c1.get;have l0:0<L.length:=(aT h0)
 have l4:4<L.length:=(aT h4)
 have l5:5<L.length:=(aT h5)
 have lx:xb<L.length:=(aT hx)
 obtain⟨vs,Hz,HV,vc,vb,vu,vp,vq,eso⟩:=(e so).aH;obtain⟨zs,wS,wT,zc,zb,zu,zp,zq,ep⟩:=(e p).aH;obtain⟨s,k1,k3,c,b,u',q,ps',ew,ed⟩:=a.iA e;unfold acJ at hx;unfold Ik at*;rw[ed]at hx;rw[eso]at h4 t;rw[ew,ep]at t;rw[ep];unfold bu aU wD rV at*;simp only[D.cells,Qe2,Qc2]at*;have i0:=idx h0;have i4:=idx h4;have i5:=idx h5;have ix:=idx hx;have n4:xb≠4:=ae;have n5:xb≠5:=ae;have m4:¬ (4=xb):=ae;have m5:¬ (5=xb):=ae;refine Ex.of (n:=N+100) ?_;unfold beS;clear ew ed c1 eso ep;simp[beL,f1717,t,h0,i0,l0,h4,i4,l4,h5,i5,l5,hx,ix,lx,n4,n5,m4,m5,checked,mJ,Dt,Ref.abs,mi,FV.target]
def aa3 (L:List ah)(v:FV)(xs:List Int):Prop:=(v=.d (.n 1)/\xs=[])\/∃ i av,6<=i/\v=.ls (.loc i) av 1 0 xs.length/\L[i]?=some (.row av 1 (LK .i64 xs))
theorem adL (xs:List Int)(x:Int):LK .i64 (xs++[x])=LK .i64 xs++[vI x]:=by simp[LK]
theorem anh (word:FV)(kx xb i start:Nat)(w:W)(xs:List Int)(hxs:xs.length<=1000)(px:FV)(L:List ah)(hL:6<=L.length)(h1:L[1]?=some (sj start px w))(hr:aa3 L px xs) :
  ∃ qM L',Ex E1 beL.r.l.bl.r.r.r.l (beS word kx (dI i) (rL xb) .u .u L) (.norm,beS word kx .u (rL xb) .u .u L')/\L'[1]?=some (sj start qM w)/\aa3 L' qM (xs++[(i:Int)])/\L.length<=L'.length /\
   (∀ j,j<L.length->j≠1->(∀ av n,px≠.ls (.loc j) av 1 0 n)->L'[j]?=L[j]?)/\∀ j av n,qM=.ls (.loc j) av 1 0 n->j=L.length\/∃ av n,px=.ls (.loc j) av 1 0 n:=by
 have l1:1<L.length:=(aT h1)
 obtain⟨vs,Hz,HV,vc,vb,vu,vp,vq,ew⟩:=w.aH;have m1:(xs.length+1)*8<=most:=by unfold most;omega
 have m2:xs.length+1<=most:=by unfold most;omega
 have hlk:(LK .i64 xs).length=xs.length:=by simp[LK]
 have s1:∀ X r,(L++X).set 1 r=L.set 1 r++X:=fun X r=>Qq2 _ _ l1
 rcases hr with ⟨rfl,rfl⟩|⟨r,av,h6,rfl,hr⟩
 ·refine⟨.ls (.loc L.length) 0 1 0 1,L.set 1 (sj start (.ls (.loc L.length) 0 1 0 1) w)++[.row 0 1 [vI i]],?_,?_,.inr ⟨L.length,0,?_,rfl,?_⟩,aC,fun j hj h1 _ => ?_,fun j av n h => ?_⟩
  ·refine Ex.of (n:=100) ?_;unfold beS sj at*;rw[ew]at h1 ⊢;unfold wD at*;simp only[D.cells,Qe2,Qc2]at*;have i1:=idx h1;have g1:=fun X=>(Qa0 (l₂:=X) l1).trans h1
   have j1:=fun X=>idx (g1 X)
   simp[beL,f1717,h1,i1,l1,g1,j1,s1,most]
  ·rw[Qa0 (by simpa using l1),Qd1 l1]
  ·exact hL
  ·simp[LK]
  ·rw[Qa0 (by simpa using hj),Qb2 ae]
  ·injection h with h;injection h with h;exact .inl h.symm
 ·have lr:r<L.length:=(aT hr)
  have tk:(LK .i64 xs).take xs.length=LK .i64 xs:=by rw[<-hlk,Qk0]
  refine⟨.ls (.loc r) (av+1) 1 0 (xs.length+1),(L.set r (.row (av+1) 1 (LK .i64 xs++[vI i]))).set 1 (sj start (.ls (.loc r) (av+1) 1 0 (xs.length+1)) w),?_,?_,.inr ⟨r,av+1,h6,aC,?_⟩,aC,fun j hj h1 hne => ?_,fun j jO n h => ?_⟩
  ·refine Ex.of (n:=100) ?_;have n1:r≠1:=ae;unfold beS sj at*;rw[ew]at h1 ⊢;unfold wD at*;simp only[D.cells,Qe2,Qc2]at*;have i1:=idx h1;have ir:=idx hr;have g1:=fun X=>(Qa0 (l₂:=X) l1).trans h1
   have gr:=fun X=>(Qa0 (l₂:=X) lr).trans hr
   have j1:=fun X=>idx (g1 X)
   have jr:=fun X=>idx (gr X)
   simp[beL,f1717,h1,i1,l1,g1,j1,s1,hr,ir,lr,gr,jr,n1,tk,hlk,m1,m2,ah.view]
  ·rw[Qd1 (by simpa using l1)]
  ·rw[Qb2 ae,Qd1 lr,adL]
  ·rw[Qb2 ae,Qb2 (fun h=>hne av xs.length (by rw[h]))]
  ·injection h with h;injection h with h;subst h;exact .inr ⟨_,_,rfl⟩
theorem ani (word:FV)(kx xb:Nat)(l:Int)(xs:List Int)(hxs:xs.length<=1000)(a:Ar α)(hal:a.l=l)(L:List ah)(hL:6<=L.length)(hx:L[xb]?=some (acJ e a))(hr:aa3 L word xs) :
  ∃ word' v13 v17 L',Ex E1 beL.r.l.bl.r.r.r.r (beS word kx .u (rL xb) .u .u L) (.norm,beS word' kx .u v13 .u v17 L')/\aa3 L' word' (if l=0 then xs else xs++[l])/\L.length<=L'.length /\
   (∀ j,j<L.length->(∀ av n,word≠.ls (.loc j) av 1 0 n)->L'[j]?=L[j]?)/\∀ j av n,word'=.ls (.loc j) av 1 0 n->j=L.length\/∃ av n,word=.ls (.loc j) av 1 0 n:=by
 have lx:xb<L.length:=(aT hx)
 have m1:(xs.length+1)*8<=most:=by unfold most;omega
 have m2:xs.length+1<=most:=by unfold most;omega
 have hlk:(LK .i64 xs).length=xs.length:=by simp[LK]
 obtain⟨s,k1,k3,c,b,u',q,ps',ew,ed⟩:=a.iA e;unfold acJ at hx;rw[ed,hal]at hx;unfold rV at hx;simp only[D.cells,Qe2,Qc2]at hx;have ix:=idx hx;clear ew ed
 by_cases h0:l=0
 ·rw[if_pos h0];refine⟨word,rL xb,dB false,L,Ex.of (n:=100) ?_,hr,Qd2 _,fun _ _ _=>rfl,fun j av n h=>.inr ⟨av,n,h⟩⟩;subst h0;unfold beS;simp[beL,f1717,hx,ix,lx]
 ·rw[if_neg h0];have hb:(l != 0)=true:=by simpa using h0
  rcases hr with ⟨rfl,rfl⟩|⟨r,av,h6,rfl,hr⟩
  ·refine⟨.ls (.loc L.length) 0 1 0 1,.u,.u,L++[.row 0 1 [vI l]],Ex.of (n:=100) ?_,.inr ⟨L.length,0,hL,rfl,by simp[LK]⟩,aC,fun j hj _ => ?_,fun j av n h => ?_⟩
   ·unfold beS;simp[beL,f1717,hx,ix,lx,h0,hb,most]
   ·rw[Qa0 hj]
   ·injection h with h;injection h with h;exact .inl h.symm
  ·have lr:r<L.length:=(aT hr)
   have tk:(LK .i64 xs).take xs.length=LK .i64 xs:=by rw[<-hlk,Qk0]
   refine⟨.ls (.loc r) (av+1) 1 0 (xs.length+1),.u,.u,L.set r (.row (av+1) 1 (LK .i64 xs++[vI l])),Ex.of (n:=100) ?_,.inr ⟨r,av+1,h6,aC,?_⟩,aC,fun j hj hne => ?_,fun j jO n h => ?_⟩
   ·unfold beS;have ir:=idx hr;simp[beL,f1717,hx,ix,lx,h0,hb,hr,ir,lr,tk,hlk,m1,m2,ah.view]
   ·rw[Qd1 lr,adL]
   ·rw[Qb2 (fun h=>hne av xs.length (by rw[h]))]
   ·injection h with h;injection h with h;subst h;exact .inr ⟨_,_,rfl⟩
theorem aot (word:FV)(kx:Nat)(v13 v17:FV)(k:Int)(hk0:-1<=k-1/\k<=1000)(L:List ah)(hk:L[kx]?=some (kB k)):Ex E1 beL.r.r (beS word kx .u v13 .u v17 L) (.norm,beS word L.length .u .u .u .u (L++[kB (k-1)])):=by
 have i1:=idx hk;have l1:kx<L.length:=(aT hk)
 have hw:ak .i64 (k-1)=k-1:=wrap_i64 ae;have sA:∀ b b':ah,(L++[b]).set L.length b'=L++[b']:=fun b b'=>by simp
 have hg:∀ b:ah,(L++[b])[L.length]?=some b:=fun b=>by simp
 apply e6;unfold beS;simp[beL,f1717,hk,i1,l1,hw,sA,hg]
mutual
theorem alL (m n:Nat):∀ v:FV,FV.az n (FV.az m v)=FV.az m v
 | .r (.loc i) off=>by simp only[FV.az]
 | .r (.old i) off=>by simp only[FV.az]
 | .e (.loc i) av sz j off=>by simp only[FV.az]
 | .e (.old i) av sz j off=>by simp only[FV.az]
 | .ls (.loc i) av sz off len=>by simp only[FV.az]
 | .ls (.old i) av sz off len=>by simp only[FV.az]
 | .m (.loc i)=>by simp only[FV.az]
 | .m (.old i)=>by simp only[FV.az]
 | .f g first captured=>by simp only[FV.az,acu m n first,acu m n captured]
 | .a cs=>by simp only[FV.az,acu m n cs]
 | .t cs=>by simp only[FV.az,acu m n cs]
 | .u=>by simp only[FV.az]
 | .d x=>by simp only[FV.az]
 | .rc x=>by simp only[FV.az]
 | .z sz=>by simp only[FV.az]
theorem acu (m n:Nat):∀ l:List FV,FV.aP n (FV.aP m l)=FV.aP m l
 | []=>by simp only[FV.aP]
 | x::l=>by simp only[FV.aP,alL m n x,acu m n l]
end
theorem ah8 (L:List ah)(n:Nat):(L.map (ah.az 0)).map (ah.az n)=L.map (ah.az 0):=by
 rw[Q2];refine Xk2 fun o _ => ?_
 cases o with
 | box cs=>simp only[Function.comp,ah.az,acu]
 | _=>rfl
theorem aa3.lt {L:List ah}{v:FV}{xs:List Int}(h:aa3 L v xs){j av n:Nat}(hv:v=.ls (.loc j) av 1 0 n):6<=j/\j<L.length:=by
 rcases h with ⟨h,_⟩|⟨i,jO,h6,h,hr⟩
 ·rw[h]at hv;cases hv
 ·rw[h]at hv
  injection hv with hv
  injection hv with hv
  subst hv;exact⟨h6,(aT hr)⟩
theorem aa3.keep {L L':List ah}{v:FV}{xs:List Int}(h:aa3 L v xs)(hk:∀ j av n,v=.ls (.loc j) av 1 0 n->L'[j]?=L[j]?):aa3 L' v xs:=by
 rcases h with h|⟨i,jO,h6,h,hr⟩
 ·exact .inl h
 ·exact .inr ⟨i,jO,h6,h,(hk i jO _ h).trans hr⟩
structure aeK (alM:ah)(lss:List D)(w:W)(start:Nat)(so:W)(st:Int)(kx:Nat)(k:Int)(px word:FV)(done N7:List Int)(L:List ah):Prop where
 a:L[0]?=some alM
 p:L[1]?=some (sj start px w)
 l:L[2]?=some (.box [.d (.s 1 lss)])
 w:L[3]?=some (Ik w)
 s:L[4]?=some (Ik so)
 q:L[5]?=some (kB st)
 k6:6<=kx
 k:L[kx]?=some (kB k)
 rp:aa3 L px done
 rw:aa3 L word N7
 ne:∀ j av n jO n',px=.ls (.loc j) av 1 0 n->word≠.ls (.loc j) jO 1 0 n'
 kp:∀ av n,px≠.ls (.loc kx) av 1 0 n
 kw:∀ av n,word≠.ls (.loc kx) av 1 0 n
theorem ah_ (kk:Int)(ps:List Int)(sy st0:Int)(bg fin lss:List D)(aJ:List (Ar α))(w:W)(start:Nat)(so p:α)(st:Int)(kx:Nat)(k:Int)(hk:0<=k/\k<=1000)(px word:FV)(done N7:List Int)(hd:done.length<=1000)(hlb:N7.length<=1000)(L:List ah)
  (B:aeK (bu kk ps sy st0 bg fin (aJ.map (Ar.d e))) lss w start (e so) st kx k px word done N7 L) (i:Nat) (a:Ar α) (ha:aJ[i]?=some a)
  (h:∃ N,∀ m,CL E1 (N+m) 1105 [.d (.s 11 (aJ.map (Ar.d e))),.f 1718 [] [.r (.old 0) 0,.r (.old 4) 0,.r (.old 5) 0,.r (.old 2) 0,.r (.old kx) 0,.r (.old 3) 0]] (L.map (ah.az 0))=some (dI i,none))
  (c1:Ca E1 13 [.d (aU kk ps),.d (e so).d,.d (e a.x).d] (.d (e p).d,none)) :
  ∃ kx' qM word' L',Ex E1 beL (beS word kx .u .u .u .u L) (.norm,beS word' kx' .u .u .u .u L') /\
   aeK (bu kk ps sy st0 bg fin (aJ.map (Ar.d e))) lss w start (e p) a.t kx' (k-1) qM word' (done++[(i:Int)]) (if a.l=0 then N7 else N7++[a.l]) L':=by
 have l5:5<L.length:=(aT B.q)
 have lk:kx<L.length:=(aT B.k)
 have k6:=B.k6;have r1:=agm word kx k L B.k;rw[if_pos hk.1,show decide (0<=k)=true by simpa using hk.1]at r1;have r2:=ane word kx kk ps sy st0 bg fin (aJ.map (Ar.d e)) L B.a i h;have r3:=anf (e:=e) word kx kk ps sy st0 bg fin aJ L B.a i a ha;obtain⟨L2,hL2⟩:∃ L2,L2=L++[acJ e a]:=⟨_,rfl⟩
 rw[<-hL2]at r3;have g2:∀ {j o},L[j]?=some o->L2[j]?=some o:=fun {j o} hj=>by
  have:=(aT hj)
  rw[hL2,Qa0 this];exact hj
 have hx2:L2[L.length]?=some (acJ e a):=by rw[hL2];simp
 have n2:L2.length=L.length+1:=by rw[hL2];simp
 have r4:=ang (e:=e) word kx L.length (dI i) kk ps sy st0 bg fin (aJ.map (Ar.d e)) L2 (g2 B.a) a so p st (g2 B.s) (g2 B.q) hx2 ae c1;obtain⟨L3,hL3⟩:∃ L3,L3=(L2.set 4 (Ik (e p))).set 5 (kB a.t):=⟨_,rfl⟩
 rw[<-hL3]at r4;have n3:L3.length=L.length+1:=by rw[hL3];simp[n2]
 have g3:∀ {j o},j≠4->j≠5->L2[j]?=some o->L3[j]?=some o:=fun {j o} h4 h5 hj=>by
  rw[hL3,Qb2 ae,Qb2 ae];exact hj
 have s3:L3[4]?=some (Ik (e p)):=by
  rw[hL3,Qb2 ae,Qd1 ae]
 have q3:L3[5]?=some (kB a.t):=by
  rw[hL3,Qd1 (by simp;omega)]
 have p3:aa3 L3 px done:=B.rp.keep fun j av n hv=>by
  obtain⟨h6,hl⟩:=B.rp.lt hv;rw[g3 ae ae (g2 (Qa1 hl)),Qa1 hl]
 have w3:aa3 L3 word N7:=B.rw.keep fun j av n hv=>by
  obtain⟨h6,hl⟩:=B.rw.lt hv;rw[g3 ae ae (g2 (Qa1 hl)),Qa1 hl]
 have npx:∀ j,j<6->∀ av n,px≠.ls (.loc j) av 1 0 n:=fun j hj av n hv=>by have:=(B.rp.lt hv).1;omega
 have nwd:∀ j,j<6->∀ av n,word≠.ls (.loc j) av 1 0 n:=fun j hj av n hv=>by have:=(B.rw.lt hv).1;omega
 have npb:∀ av n,px≠.ls (.loc L.length) av 1 0 n:=fun av n hv=>by have:=(B.rp.lt hv).2;omega
 have nwb:∀ av n,word≠.ls (.loc L.length) av 1 0 n:=fun av n hv=>by have:=(B.rw.lt hv).2;omega
 obtain⟨qM,L4,r5,p4,rp4,n4,afY,ank⟩:=anh word kx L.length i start w done hd px L3 ae (g3 ae ae (g2 B.p)) p3;have w4:aa3 L4 word N7:=w3.keep fun j av n hv=>by
  obtain⟨h6,hl⟩:=w3.lt hv;exact afY j hl ae fun jO n' hp=>B.ne j jO n' av n hp hv
 have x4:L4[L.length]?=some (acJ e a):=by rw[afY _ ae ae npb];exact g3 ae ae hx2
 have g4:∀ {j o},j≠1->j≠4->j≠5->(∀ av n,px≠.ls (.loc j) av 1 0 n)->L[j]?=some o->L4[j]?=some o:=fun {j o} a1 a2 a3 a4 hj=>by
  have:=(aT hj)
  rw[afY j ae a1 a4];exact g3 a2 a3 (g2 hj)
 obtain⟨word',v13,v17,L5,r6,rw5,n5,ah',aov⟩:=ani (e:=e) word kx L.length a.l N7 hlb a rfl L4 ae x4 w4;have k5:L5[kx]?=some (kB k):=by
  rw[ah' kx ae B.kw];exact g4 ae ae ae B.kp B.k
 have r7:=aot word' kx v13 v17 k ⟨ae,hk.2⟩ L5 k5;have g5:∀ {j o},j<6->L4[j]?=some o->(L5++[kB (k-1)])[j]?=some o:=fun {j o} hj h=>by
  rw[Qa0 ae,ah' j ae (nwd j hj)];exact h
 have rp5:aa3 L5 qM (done++[(i:Int)]):=rp4.keep fun j av n hv=>by
  obtain⟨h6,hl⟩:=rp4.lt hv;refine ah' j hl fun jO n' hw => ?_
  rcases ank j av n hv with e1|⟨alP,n0,e1⟩
  ·have:=(B.rw.lt hw).2;omega
  ·exact B.ne j alP n0 jO n' e1 hw
 have up:∀ {v xs},aa3 L5 v xs->aa3 (L5++[kB (k-1)]) v xs:=fun h=>h.keep fun j av n hv=>by
  rw[Qa0 (h.lt hv).2]
 refine⟨L5.length,qM,word',L5++[kB (k-1)],r1.seq ((Ex.eZ (r2.seq (r3.seq (r4.seq (r5.seq r6))))).seq r7),
  ⟨g5 ae (g4 ae ae ae (npx 0 ae) B.a),g5 ae p4,g5 ae (g4 ae ae ae (npx 2 ae) B.l),g5 ae (g4 ae ae ae (npx 3 ae) B.w),
   g5 ae (by rw[afY 4 ae ae (npx 4 ae)];exact s3),g5 ae (by rw[afY 5 ae ae (npx 5 ae)];exact q3),ae,aC,up rp5,up rw5,fun j av n jO n' hp hw => ?_,fun av n hp => ?_,fun av n hw => ?_⟩⟩
 ·obtain⟨h6,hl⟩:=rp4.lt hp;rcases aov j jO n' hw with e1|⟨alP,n0,e1⟩
  ·omega
  ·rcases ank j av n hp with e2|⟨acb,n1,e2⟩
   ·have:=(B.rw.lt e1).2;omega
   ·exact B.ne j acb n1 alP n0 e2 e1
 ·have:=(rp5.lt hp).2;omega
 ·have:=(rw5.lt hw).2;omega
def aba (l:List (Ar α)):List Nat->List Int
 | []=>[]
 | i::is=>match l[i]? with
  | some a=>if a.l=0 then aba l is else a.l::aba l is
  | none=>aba l is
abbrev nI (is:List Nat):List Int:=is.map fun(i:Nat)=>(i:Int)
theorem acn {E:Env}{a b:aF}{st st1:St}{id:Nat}(h1:Ex E a st (.exit id,st1)):Ex E (.seq a b) st (.exit id,st1):=by
 obtain⟨n1,h1⟩:=h1;refine⟨n1+1,fun n hn => ?_⟩;obtain⟨m,rfl⟩:∃ m,n=m+1:=⟨n-1,ae⟩
 rw[uk,h1 m ae]
theorem agn (kk:Int)(ps:List Int)(sy st0:Int)(bg fin lss:List D)(aJ:List (Ar α))(ha:aJ.length<=1000000)(V:Nat->List α)(z w:α)(start:Nat)(eq:α->α->Bool)(tm:α->α->α)(J:Nat->α->Nat->Prop)
  (hrow:∀ k so st,J (k+1) so st->lss[k]?=some (.s 8 ((V k).map fun x=>(e x).d)))
  (hJ:∀ k so st,J (k+1) so st->∃ i a,aJ.findIdx? (bpP eq tm (fun k q=>(V k).getD q z) w k so st)=some i/\aJ[i]?=some a/\0<=a.t/\J k (tm so a.x) a.t.toNat)
  (hC:∀ k so st,J (k+1) so st->∀ b ∈ aJ,(0<=b.f/\0<=b.t/\b.t.toNat<(V k).length)/\Ca E1 13 [.d (aU kk ps),.d (e so).d,.d (e b.x).d] (.d (e (tm so b.x)).d,none) /\
   Ca E1 13 [.d (aU kk ps),.d (e (tm so b.x)).d,.d (e ((V k).getD b.t.toNat z)).d] (.d (e (tm (tm so b.x) ((V k).getD b.t.toNat z))).d,none)/\Ca E1 34 [.d (e (tm (tm so b.x) ((V k).getD b.t.toNat z))).d,.d (e w).d] (dB (eq (tm (tm so b.x) ((V k).getD b.t.toNat z)) w),none)) :
  ∀ (k:Nat) (so:α) (st kx:Nat) (px word:FV) (done N7:List Int) (L:List ah),k+done.length<=1000->N7.length<=done.length->J k so st->aeK (bu kk ps sy st0 bg fin (aJ.map (Ar.d e))) lss (e w) start (e so) st kx ((k:Int)-1) px word done N7 L ->
   ∃ kx' qM word' L' so' st',Ex E1 (.loop beL) (beS word kx .u .u .u .u L) (.exit 0,beS word' kx' .u .u (dB false) .u L') /\
    aeK (bu kk ps sy st0 bg fin (aJ.map (Ar.d e))) lss (e w) start so' st' kx' (-1) qM word' (done++nI (bp eq tm aJ (fun k q=>(V k).getD q z) w k so st)) (N7++aba aJ (bp eq tm aJ (fun k q=>(V k).getD q z) w k so st)) L'
 | 0,so,st,kx,px,word,done,N7,L,_,_,_,B=>by
  have h:=agm word kx _ L B.k;rw[if_neg ae,show decide (0<=(((0:Nat):Int)-1))=false by decide]at h;refine⟨kx,px,word,L,e so,(st:Int),Ex.leave (acn h) aC,?_⟩;simp only[bp,Qc2,Q10,aba];exact B
 | k+1,so,st,kx,px,word,done,N7,L,hd,hl,hj,B=>by
  obtain⟨i,a,f1,f2,f3,f4⟩:=hJ k so st hj;have hr:=hrow k so st hj;have hcc:=hC k so st hj;have ek:(((k+1:Nat):Int)-1)=(k:Int):=ae;rw[ek]at B;have gB:∀ {j:Nat} {o:ah},L[j]?=some o->(L.map (ah.az 0))[j]?=some (ah.az 0 o):=fun h=>by rw[Qb1,h];rfl
  have hix:=ag4 (e:=e) 1718 0 4 5 2 kx 3 aJ (bpP eq tm (fun k q=>(V k).getD q z) w k so st) (L.map (ah.az 0)) (ah8 L) ha (fun b hb=>by
   obtain⟨⟨b1,b2,b3⟩,c1,c2,c3⟩:=hcc b hb;have hvt:(V k)[b.t.toNat]?=some ((V k).getD b.t.toNat z):=getD_at b3;exact ahN (e:=e) kk ps sy st0 bg fin (aJ.map (Ar.d e)) lss ((V k).map fun x=>(e x).d) b so w _ _ _ st k b.t.toNat ae b1 hr (by rw[Qb1,hvt];rfl) _ c1 c2 c3 0 4 5 2 kx 3 (L.map (ah.az 0))
    (by rw[gB B.a,zy]) (by rw[gB B.s];unfold Ik;rw[mM]) (by rw[gB B.q];rfl) (by rw[gB B.l];rfl) (by rw[gB B.k];rfl) (by rw[gB B.w];unfold Ik;rw[mM]))
  rw[f1]at hix;have hat:(a.t.toNat:Int)=a.t:=ae;obtain⟨kx',qM,word',L',r1,B'⟩:=ah_ (e:=e) kk ps sy st0 bg fin lss aJ (e w) start so (tm so a.x) st kx k ae px word done N7 ae ae L B i a f2 hix (hcc a (Qa2 f2)).2.1;rw[<-hat]at B';obtain⟨kx2,px2,word2,L2,so2,st2,r2,B2⟩:=agn kk ps sy st0 bg fin lss aJ ha V z w start eq tm J hrow hJ hC k (tm so a.x) a.t.toNat kx' qM word' _ _ L' (by rw[Qb0];simp;omega) (by rw[Qb0];split<;>simp<;>omega) f4 B';refine⟨kx2,px2,word2,L2,so2,st2,r1.next r2,?_⟩;have e1:bp eq tm aJ (fun k q=>(V k).getD q z) w (k+1) so st=i::bp eq tm aJ (fun k q=>(V k).getD q z) w k (tm so a.x) a.t.toNat:=by
   rw[bp,f1];simp only[f2]
  rw[e1];have e2:N7++aba aJ (i::bp eq tm aJ (fun k q=>(V k).getD q z) w k (tm so a.x) a.t.toNat)=(if a.l=0 then N7 else N7++[a.l])++aba aJ (bp eq tm aJ (fun k q=>(V k).getD q z) w k (tm so a.x) a.t.toNat):=by
   rw[aba,f2];simp only;split<;>simp
  have e3:done++nI (i::bp eq tm aJ (fun k q=>(V k).getD q z) w k (tm so a.x) a.t.toNat)=(done++[(i:Int)])++nI (bp eq tm aJ (fun k q=>(V k).getD q z) w k (tm so a.x) a.t.toNat):=by simp[nI]
  rw[e2,e3];exact B2
theorem aid (kk:Int)(ps:List Int)(sy st:Int)(bg fin es IA fin' es' lss:List D)(n:Nat)(w:W)(k0 q0:Nat)
  (h1:Ca E1 1710 [.d (jh kk ps sy n bg fin es)] (.d (.t [jh kk ps sy n IA fin' es',vI 0]),none)) (h2:Ca E1 1712 [.d (jh kk ps sy n IA fin' es')] (.d (.s 1 lss),none))
  (h3:Ca E1 1716 [.d (jh kk ps sy n IA fin' es'),.d (.s 1 lss)] (.d (.t [w.d,vI k0,vI q0]),none)) (r:Out × St)
  (h:Ex E1 f1717.body.r.r.r.r.r.r (st0 (.u::rL 0::rL 1::.d (.n 1)::.u::rL 2::rL 3::dI k0::dI q0::rT) [bu kk ps sy n IA fin' es',sj q0 (.d (.n 1)) w,.box [.d (.s 1 lss)],Ik w]) r) :
  Ex E1 f1717.body (st0 (.d (jh kk ps sy n bg fin es)::ags) []) r:=by
 obtain⟨K,hK,t1,t2,t3⟩:=(h1.j (h2.j h3.any)).at 0;obtain⟨vs,Hz,HV,vc,vb,vu,vp,vq,ew⟩:=w.aH;obtain⟨pb,hpb⟩:∃ pb:ah,pb=.box [dI 0,.d (.n 1),dB false,.d (.n 1),.d (.n 1),dI 0,dB false,.d (.v (.int .u64 0)),.d (.n 6),.d (.n 8)]:=⟨_,rfl⟩
 obtain⟨ab,hab⟩:∃ ab,ab=bu kk ps sy n bg fin es:=⟨_,rfl⟩
 obtain⟨ac,hac⟩:∃ ac,ac=bu kk ps sy n IA fin' es':=⟨_,rfl⟩
 obtain⟨wb,hwb⟩:∃ wb,wb=Ik w:=⟨_,rfl⟩
 rw[<-hac,<-hwb]at h;clear h1 h2 h3 hK;have sA:Ex E1 f1717.body.l (st0 (.d (jh kk ps sy n bg fin es)::ags) [])
   (.norm,(st0 (.u::rL 0::rL 1::.d (.n 1)::TS) [ab,pb])):=by
  apply e6;clear h t1 t2 t3;rw[hab,hpb];unfold jh bu;simp[f1717]
 have sB := nx sA f1717.body.r.l (st0 (.u::rL 0::rL 1::.d (.n 1)::dI 0::Ma) [ac,pb]) (by
  refine Ex.of (n:=K+60) ?_;clear h t2 t3 sA;rw[hab,hac];unfold jh at t1;unfold bu;generalize LK .i64 ps=l9 at*;simp[f1717,t1,checked,mJ,Dt,Ref.abs,mi,FV.target])
 have sC := nx sB f1717.body.r.r.l (st0 [.u,rL 0,rL 1,.d (.n 1),dI 0,.u,.u,.u,.u,.u,.u,.u,.u,.u,dB false,.u,.u,.u,.u] [ac,pb]) (by
  apply e6;clear h t1 t2 t3 sA sB;simp[f1717])
 have sD := nx sC f1717.body.r.r.r.l (st0 (.u::rL 0::rL 1::.d (.n 1)::.u::rL 2::EZ) [ac,pb,.box [.d (.s 1 lss)]]) (by
  refine Ex.of (n:=K+60) ?_;clear h t1 t3 sA sB sC;rw[hac];unfold jh at t2;unfold bu;generalize LK .i64 ps=l9 at*;simp[f1717,t2])
 have sE := nx sD f1717.body.r.r.r.r.l (st0 (.u::rL 0::rL 1::.d (.n 1)::.u::rL 2::rL 3::dI k0::dI q0::rT) [ac,pb,.box [.d (.s 1 lss)],wb]) (by
  refine Ex.of (n:=K+60) ?_;clear h t1 t2 sA sB sC sD;rw[hac,hwb];unfold Ik;rw[ew]at t3 ⊢;unfold jh wD at*;unfold bu;simp only[D.cells,Qe2,Qc2];simp[f1717,t3])
 have sF := nx sE f1717.body.r.r.r.r.r.l (st0 (.u::rL 0::rL 1::.d (.n 1)::.u::rL 2::rL 3::dI k0::dI q0::rT) [ac,sj q0 (.d (.n 1)) w,.box [.d (.s 1 lss)],wb]) (by
  apply e6;clear h t1 t2 t3 sA sB sC sD sE;rw[hwb,hpb];unfold Ik sj;rw[ew];unfold wD;simp only[D.cells,Qe2,Qc2];simp[f1717,Qr,jN])
 exact sA.seq (sB.seq (sC.seq (sD.seq (sE.seq (sF.seq h)))))
def paD (start:Nat)(is:List Int)(w:W):D:=.a (vI start::.s 1 (LK .i64 is)::w.d.cells)
theorem aif (kk:Int)(ps:List Int)(sy st:Int)(bg fin es IA fin' es' lss:List D)(n:Nat)(w:W)(k0 q0:Nat)
  (h1:Ca E1 1710 [.d (jh kk ps sy n bg fin es)] (.d (.t [jh kk ps sy n IA fin' es',vI 0]),none)) (h2:Ca E1 1712 [.d (jh kk ps sy n IA fin' es')] (.d (.s 1 lss),none))
  (h3:Ca E1 1716 [.d (jh kk ps sy n IA fin' es'),.d (.s 1 lss)] (.d (.t [w.d,vI k0,vI q0]),none)) (h4:Ca E1 1104 [.d (aU kk ps),.d w.d] (dB true,none)) :
  Ca E1 1717 [.d (jh kk ps sy n bg fin es)] (.d (.t [paD q0 [] w,.s 1 [],vI 0]),none):=by
 obtain⟨N,t⟩:=h4.get;obtain⟨vs,Hz,HV,vc,vb,vu,vp,vq,ew⟩:=w.aH;have key:∃ st',Ex E1 f1717.body.r.r.r.r.r.r (st0 (.u::rL 0::rL 1::.d (.n 1)::.u::rL 2::rL 3::dI k0::dI q0::rT) [bu kk ps sy n IA fin' es',sj q0 (.d (.n 1)) w,.box [.d (.s 1 lss)],Ik w]) (.ret,st')/\finish f1717 st'=some (.d (.t [paD q0 [] w,.s 1 [],vI 0]),none):=by
  unfold Ik sj paD bu;rw[ew]at t ⊢;unfold aU wD at*;simp only[D.cells,Qe2,Qc2];refine⟨_,Ex.of (n:=N+100) (by simp[f1717,t,Qr,jN];rfl),?_⟩;simp[finish,fD,show f1717.res=[.cell 2 true 10,.var 3,.var 4] from rfl,show f1717.ref=false from rfl,Qr,rH,jN,LK]
 obtain⟨st',e1,e2⟩:=key;exact Ca.body (o:=.ret) rfl (k1717:E1.fn _=_) rfl (aid kk ps sy st bg fin es IA fin' es' lss n w k0 q0 h1 h2 h3 _ e1) aC e2
theorem alQ (word:FV)(kx:Nat)(alM:ah)(lss:List D)(w:W)(start:Nat)(so:W)(st:Int)(px:FV)(done N7:List Int)(L:List ah)(B:aeK alM lss w start so st kx (-1) px word done N7 L) :
  ∃ st',Ex E1 f1717.body.r.r.r.r.r.r.r.r.r (beS word kx .u .u (dB false) .u L) (.ret,st')/\finish f1717 st'=some (.d (.t [paD start done w,.s 1 (LK .i64 N7),vI 0]),none):=by
 have h1:=B.p;have l1:1<L.length:=(aT h1)
 obtain⟨vs,Hz,HV,vc,vb,vu,vp,vq,ew⟩:=w.aH;have hp:=B.rp;have hw:=B.rw;have hne:=B.ne;clear B;unfold sj at h1;unfold paD beS;rw[ew]at h1 ⊢;unfold wD at*;simp only[D.cells,Qe2,Qc2]at*;have hlk:∀ xs:List Int,(LK .i64 xs).length=xs.length:=fun xs=>by simp[LK]
 have tk:∀ xs:List Int,(LK .i64 xs).take xs.length=LK .i64 xs:=fun xs=>by rw[<-hlk,Qk0]
 have i1:=idx h1;have s1:L.set 1 L[1]=L:=X12 l1;rcases hp with ⟨rfl,rfl⟩|⟨r,av,h6,rfl,hr⟩<;>rcases hw with ⟨rfl,rfl⟩|⟨r',jO,h6',rfl,hr'⟩
 ·refine⟨_,Ex.of (n:=100) (by simp[f1717,h1,i1,l1,Qr,jN];rfl),?_⟩;simp[finish,fD,show f1717.res=[.cell 2 true 10,.var 3,.var 4] from rfl,show f1717.ref=false from rfl,h1,i1,l1,Qr,rH,jN,LK]
 ·have lr':r'<L.length:=(aT hr')
  have ir':=idx hr';have n1:r'≠1:=ae;have n2:¬ (1=r'):=ae;have hl':=hlk N7;have tk':=tk N7;generalize LK .i64 N7=ys at*;refine⟨_,Ex.of (n:=100) (by simp[f1717,h1,i1,l1,Qr,jN];rfl),?_⟩;simp[finish,fD,show f1717.res=[.cell 2 true 10,.var 3,.var 4] from rfl,show f1717.ref=false from rfl,h1,i1,l1,Qr,rH,jN,hr',ir',lr',n1,n2,tk',hl',ah.view,LK]
 ·have lr:r<L.length:=(aT hr)
  have ir:=idx hr;have n1:r≠1:=ae;have n2:¬ (1=r):=ae;have hl':=hlk done;have tk':=tk done;generalize LK .i64 done=ys at*;refine⟨_,Ex.of (n:=100) (by simp[f1717,h1,i1,l1,Qr,jN];rfl),?_⟩;simp[finish,fD,show f1717.res=[.cell 2 true 10,.var 3,.var 4] from rfl,show f1717.ref=false from rfl,h1,i1,l1,Qr,rH,jN,hr,ir,lr,n1,n2,tk',hl',ah.view,LK]
 ·have lr:r<L.length:=(aT hr)
  have ir:=idx hr;have lr':r'<L.length:=(aT hr')
  have ir':=idx hr';have nn:r≠r':=fun h=>hne r av done.length jO N7.length rfl (by rw[h])
  have nn':¬ (r'=r):=fun h=>nn h.symm
  have n1:r≠1:=ae;have n2:¬ (1=r):=ae;have n3:r'≠1:=ae;have n4:¬ (1=r'):=ae;have hl1:=hlk done;have tk1:=tk done;have hl2:=hlk N7;have tk2:=tk N7;refine⟨_,Ex.of (n:=100) (by simp[f1717,h1,i1,l1,Qr,jN];rfl),?_⟩;simp[finish,fD,show f1717.res=[.cell 2 true 10,.var 3,.var 4] from rfl,show f1717.ref=false from rfl,h1,i1,l1,Qr,rH,jN,hr,ir,lr,hr',ir',lr',nn,nn',n1,n2,n3,n4,tk1,hl1,tk2,hl2,ah.view]
theorem aih (kk:Int)(ps:List Int)(sy st:Int)(bg fin es:List D)(IA:List α)(fin':List D)(aJ:List (Ar α))(ha:aJ.length<=1000000)(V:Nat->List α)(lss:List D)(n:Nat)(z w:α)(k0 q0:Nat)(hk0:k0<=900)(s0:α)(hs0:IA[q0]?=some s0)(eq:α->α->Bool)(tm:α->α->α)(J:Nat->α->Nat->Prop)
  (h1:Ca E1 1710 [.d (jh kk ps sy n bg fin es)] (.d (.t [jh kk ps sy n (IA.map fun x=>(e x).d) fin' (aJ.map (Ar.d e)),vI 0]),none)) (h2:Ca E1 1712 [.d (jh kk ps sy n (IA.map fun x=>(e x).d) fin' (aJ.map (Ar.d e)))] (.d (.s 1 lss),none))
  (h3:Ca E1 1716 [.d (jh kk ps sy n (IA.map fun x=>(e x).d) fin' (aJ.map (Ar.d e))),.d (.s 1 lss)] (.d (.t [(e w).d,vI k0,vI q0]),none)) (h4:Ca E1 1104 [.d (aU kk ps),.d (e w).d] (dB false,none))
  (hrow:∀ k so st,J (k+1) so st->lss[k]?=some (.s 8 ((V k).map fun x=>(e x).d)))
  (hJ:∀ k so st,J (k+1) so st->∃ i a,aJ.findIdx? (bpP eq tm (fun k q=>(V k).getD q z) w k so st)=some i/\aJ[i]?=some a/\0<=a.t/\J k (tm so a.x) a.t.toNat)
  (hC:∀ k so st,J (k+1) so st->∀ b ∈ aJ,(0<=b.f/\0<=b.t/\b.t.toNat<(V k).length)/\Ca E1 13 [.d (aU kk ps),.d (e so).d,.d (e b.x).d] (.d (e (tm so b.x)).d,none) /\
   Ca E1 13 [.d (aU kk ps),.d (e (tm so b.x)).d,.d (e ((V k).getD b.t.toNat z)).d] (.d (e (tm (tm so b.x) ((V k).getD b.t.toNat z))).d,none)/\Ca E1 34 [.d (e (tm (tm so b.x) ((V k).getD b.t.toNat z))).d,.d (e w).d] (dB (eq (tm (tm so b.x) ((V k).getD b.t.toNat z)) w),none))
  (hj:J k0 s0 q0) :
  Ca E1 1717 [.d (jh kk ps sy n bg fin es)] (.d (.t [paD q0 (nI (bp eq tm aJ (fun k q=>(V k).getD q z) w k0 s0 q0)) (e w),.s 1 (LK .i64 (aba aJ (bp eq tm aJ (fun k q=>(V k).getD q z) w k0 s0 q0))),vI 0]),none):=by
 obtain⟨L0,hL0⟩:∃ L0,L0=[bu kk ps sy n (IA.map fun x=>(e x).d) fin' (aJ.map (Ar.d e)),sj q0 (.d (.n 1)) (e w),.box [.d (.s 1 lss)],Ik (e w),Ik (e s0),kB q0,kB ((k0:Int)-1)]:=⟨_,rfl⟩
 have B0:aeK (bu kk ps sy n (IA.map fun x=>(e x).d) fin' (aJ.map (Ar.d e))) lss (e w) q0 (e s0) q0 6 ((k0:Int)-1) (.d (.n 1)) (.d (.n 1)) [] [] L0:=by
  rw[hL0];exact⟨rfl,rfl,rfl,rfl,rfl,rfl,Qd2 _,rfl,.inl ⟨rfl,rfl⟩,.inl ⟨rfl,rfl⟩,fun j av n jO n' h=>(by cases h),fun av n h=>(by cases h),fun av n h=>(by cases h)⟩
 obtain⟨kx,px,word,L,so',st',r1,B1⟩:=agn kk ps sy n (IA.map fun x=>(e x).d) fin' lss aJ ha V z w q0 eq tm J hrow hJ hC k0 s0 q0 6 (.d (.n 1)) (.d (.n 1)) [] [] L0 (by simp;omega) aC hj B0;rw[Qv2,Qv2]at B1;obtain⟨sf,r2,r3⟩:=alQ word kx _ lss (e w) q0 so' st' px _ _ L B1;obtain⟨N,t⟩:=h4.get;have e2:(IA.map fun x=>(e x).d)[q0]?=some (e s0).d:=by simp[hs0]
 clear hrow hJ hC B0 B1 h4 hs0;obtain⟨vs,Hz,HV,vc,vb,vu,vp,vq,ew⟩:=(e w).aH;obtain⟨zs,wS,wT,zc,zb,zu,zp,zq,es0⟩:=(e s0).aH;have hw0:ak .i64 ((k0:Int)-1)=(k0:Int)-1:=wrap_i64 ae;have sG:Ex E1 f1717.body.r.r.r.r.r.r.l (st0 (.u::rL 0::rL 1::.d (.n 1)::.u::rL 2::rL 3::dI k0::dI q0::rT) [bu kk ps sy n (IA.map fun x=>(e x).d) fin' (aJ.map (Ar.d e)),sj q0 (.d (.n 1)) (e w),.box [.d (.s 1 lss)],Ik (e w)])
   (.norm,(st0 [.u,rL 0,rL 1,.d (.n 1),.u,rL 2,rL 3,dI k0,dI q0,.u,.u,.u,.u,.u,.u,dB false,.u,.u,.u] [bu kk ps sy n (IA.map fun x=>(e x).d) fin' (aJ.map (Ar.d e)),sj q0 (.d (.n 1)) (e w),.box [.d (.s 1 lss)],Ik (e w)])):=by
  refine Ex.of (n:=N+60) ?_;clear r1 r2 r3;unfold Ik sj bu;rw[ew]at t ⊢;unfold aU wD at*;generalize LK .i64 ps=l9 at*;simp only[D.cells,Qe2,Qc2];simp[f1717,t]
 have sH := nx sG f1717.body.r.r.r.r.r.r.r.l (st0 (.u::rL 0::rL 1::.d (.n 1)::.u::rL 2::rL 3::dI k0::.u::rL 4::rL 5::zW) [bu kk ps sy n (IA.map fun x=>(e x).d) fin' (aJ.map (Ar.d e)),sj q0 (.d (.n 1)) (e w),.box [.d (.s 1 lss)],Ik (e w),Ik (e s0),kB q0]) (by
  apply e6;clear r1 r2 r3 sG t;obtain⟨pb,hpb⟩:∃ pb,pb=sj q0 (.d (.n 1)) (e w):=⟨_,rfl⟩
  obtain⟨wb,hwb⟩:∃ wb,wb=Ik (e w):=⟨_,rfl⟩
  rw[<-hpb,<-hwb];unfold Ik bu;rw[es0]at e2 ⊢;unfold wD at*;generalize (IA.map fun x=>(e x).d)=is at*;simp only[D.cells,Qe2,Qc2];have i2:=idx e2;have q2:q0<is.length:=(aT e2)
  have q3:(0:Int)<=(q0:Int):=ae;simp[f1717,e2,i2,q2,q3])
 have sI := nx sH f1717.body.r.r.r.r.r.r.r.r.l.l (beS (.d (.n 1)) 6 .u .u .u .u L0) (by
  apply e6;clear r1 r2 r3 sG sH t;rw[hL0];unfold beS;simp[f1717,hw0])
 exact Ca.body (o:=.ret) rfl (k1717:E1.fn _=_) rfl (aid kk ps sy st bg fin es _ fin' _ lss n (e w) k0 q0 h1 h2 h3 _ (sG.seq (sH.seq ((Ex.seq sI (Ex.block r1)).seq r2)))) aC r3
end Fi.S
noncomputable section
namespace Fi.S
open Go Fi
set_option maxHeartbeats 8000000
set_option maxRecDepth 10000
theorem X4 (vi:Bool)(em:Bool)(st:Int)(li lf la:List Int)(kk:Int)(hkk:kk=if vi then 3 else 2)(n:Int)(bg fin es IA fin' es':List D)
  (h1:Ca E1 1028 [.d (.a [vI st,.s 1 (LK .i64 li),.s 1 (LK .i64 lf),.s 1 (LK .i64 la),vB em]),.d (aU kk []),dI 2,dI 4] (.d (jh kk [] 2 n bg fin es),none))
  (h2:Ca E1 1044 [.d (jh kk [] 2 n bg fin es)] (.d (jh kk [] 2 n IA fin' es'),none)) :
  Ca E1 1707 [dB vi,.d (.a [vI st,.s 1 (LK .i64 li),.s 1 (LK .i64 lf),.s 1 (LK .i64 la),vB em])] (.d (jh kk [] 2 n IA fin' es'),none):=by
 obtain⟨K,hK,t1,t2⟩:=(h1.j h2.any).at 0;clear h1 h2 hK;have e0:LK .i64 []=[]:=rfl;refine Ca.bQ (n:=K+200) ?_;rw[aA rfl (aO 1707 f1707:E1.fn _=_) rfl];unfold aU jh at*;simp only[show LK .i64 []=[] from rfl]at*;cases vi
 ·rw[if_neg aC]at hkk;subst hkk;simp[f1707,t1,t2,Qr,jN]
 ·rw[if_pos rfl]at hkk;subst hkk;simp[f1707,t1,t2,Qr,jN]
end Fi.S
noncomputable section
namespace Fi.S
open Go Fi
set_option maxHeartbeats 8000000
set_option maxRecDepth 10000
variable {α:Type} {e:α->W}
end Fi.S
noncomputable section
namespace Fi.S
open Go Fi
set_option maxHeartbeats 8000000
set_option maxRecDepth 10000
theorem v23 {k:Int}(h:k=2\/k=3):aM k []=true:=by rcases h with rfl|rfl<;>decide
theorem s23 {k:Int}(h:k=2\/k=3):single k=true:=by rcases h with rfl|rfl<;>decide
theorem aj1 {k:Int}(h:k=2\/k=3){S M:Nat}(hS:S<=1000){x y:Sv}(hx:x.of k S M)(hy:y.of k S M):Pp k x.w y.w (dn k x y).w:=by
 rcases h with rfl|rfl
 ·obtain⟨i,n,rfl,_⟩:=tC hx;obtain⟨j,m,rfl,_⟩:=tC hy;obtain⟨N,t⟩:=(VQ i j n m).get;exact⟨N,fun h=>absurd h bS,fun _=>t⟩
 ·obtain⟨a,rfl,_,_,ha⟩:=tF hx;obtain⟨b,rfl,_,_,hb⟩:=tF hy;obtain⟨N,t⟩:=Rk a b ae ae;exact⟨N,fun _ B j o hB m=>t B j _ _ _ _ _ _ _ _ hB m,fun h=>absurd rfl h⟩
theorem aii {k:Int}(h:k=2\/k=3){S M:Nat}(hS:S<=1000){x y:Sv}(hx:x.of k S M)(hy:y.of k S M):Du k x.w y.w (cK x y).w:=by
 unfold Du;rcases h with rfl|rfl
 ·obtain⟨i,n,rfl,h1,h2,_⟩:=tC hx;obtain⟨j,m,rfl,h3,h4,_⟩:=tC hy;exact Rf i j n m ⟨h1,h2⟩ ⟨h3,h4⟩
 ·obtain⟨a,rfl,_,_,ha⟩:=tF hx;obtain⟨b,rfl,_,_,hb⟩:=tF hy;exact F7 a b ae ae
theorem aoA:cz E0 200 86 [.d (.s 6 [])] []=some (.d (.s 6 []),none):=aaN (by kernel_rfl)
theorem adO {k:Int}(h:k=2\/k=3){S M:Nat}(hS:S<=1000){x:Sv}(hx:x.of k S M):Ca E1 53 [.d (aU k []),.d x.w.d] (.d x.w.d,none):=by
 have hk:=s23 h;have hc:=Ca.gM (FP k [] x.w aC (V_ hx hS));have hm:=DR (eO hk).1 (aaR hk hx);rw[mk_one hk]at hm;rw[hm]at hc;obtain⟨s,l1,l2,c,b,u,e,t1⟩:∃ s l1 l2 c b u,x.w.d=wD s l1 l2 c b u [] []/\Ca E1 85 [.d (.a [vB s,.s 1 l1,.s 1 l2])] (.d (.a [vB s,.s 1 l1,.s 1 l2]),none):=by
  rcases h with rfl|rfl
  ·obtain⟨i,n,rfl,_⟩:=tC hx;have t0:=Ca.gM (iP 0 (by have:=jD;omega));rw[uE]at t0;exact⟨_,_,_,_,_,_,rfl,t0⟩
  ·obtain⟨a,rfl,_,_,ha⟩:=tF hx;exact⟨_,_,_,_,_,_,rfl,Ca.gM (iP a ae)⟩
 rw[e]at hc ⊢;obtain⟨K,hK,a0,a1,a2⟩:=(hc.j (t1.j ((Ca.gM (Ca.of aoA)).any))).at 0;clear hc t1 e hm hK;refine Ca.bQ (n:=K+200) ?_;rw[aA rfl (aO 53 f53:E1.fn _=_) rfl];unfold wD aU at*;generalize LK .i64 []=l0 at*;simp[aD,f53,a0,a1,a2]
theorem qdd (x:Rat):∃ s n d,(Sv.q x).w.d=wD s n d 0 false 0 [] []/\qD x=.a [vB s,.s 1 n,.s 1 d]:=⟨_,_,_,rfl,rfl⟩
theorem aj3 {k:Int}(h:k=2\/k=3){S M:Nat}(hS:S<=1000){x y:Sv}(hx:x.of k S M)(hy:y.of k S M):Ca E1 19 [.d (aU k []),.d x.w.d,.d y.w.d] (.d (dn k x y).w.d,none):=by
 have tx:=adO h hS hx;have ty:=adO h hS hy;have tv:=Ca.gM (Ca.bQ (fJ 0 k []));rw[v23 h]at tv;obtain⟨m0,a0⟩:=tv.any;obtain⟨m1,a1⟩:=tx.any;obtain⟨m2,a2⟩:=ty.any;rcases h with rfl|rfl
 ·obtain⟨i,n,rfl,hn0,hn1,hin⟩:=tC hx;obtain⟨j,m,rfl,hm0,hm1,hjm⟩:=tC hy;obtain⟨K,hK⟩:∃ K,K=m0+m1+m2:=⟨_,rfl⟩
  replace a0:=a0 K ae;replace a1:=a1 K ae;replace a2:=a2 K ae;rw[RA];have hc1:∀ n,(Sv.c i n).w.d=wD false [] [] n i 0 [] []:=fun n=>rfl
  have hc2:∀ n,(Sv.c j n).w.d=wD false [] [] n j 0 [] []:=fun n=>rfl
  unfold jd;rw[hc1]at a1 tx;rw[hc2]at a2 ty
  by_cases h:m<n<;>cases i<;>cases j<;>(try obtain rfl:=hin rfl)<;>(try obtain rfl:=hjm rfl)<;>(try exact absurd h ae)<;>simp only[h,Xg1,Bool.not_false,Q60,Qs1,X01,Bool.or_true,Bool.true_or,Xc1,decide_true,decide_false,if_true,if_false,Qh1,hc1,hc2] <;>
  (clear hK tv tx ty;refine Ca.bQ (n:=K+300) ?_;rw[aA rfl (k19:E1.fn _=_) rfl];unfold wD aU at*;generalize LK .i64 []=l0 at*;simp[f19,a0,a1,a2,h])
 ·obtain⟨a,rfl,_,_,ha⟩:=tF hx;obtain⟨b,rfl,_,_,hb⟩:=tF hy;obtain⟨m3,a3⟩:=(Ca.gM (Cq a b ae ae)).any;obtain⟨K,hK⟩:∃ K,K=m0+m1+m2+m3:=⟨_,rfl⟩
  replace a0:=a0 K ae;replace a1:=a1 K ae;replace a2:=a2 K ae;replace a3:=a3 K ae;obtain⟨s1,n1,d1,e1,g1⟩:=qdd a;obtain⟨s2,n2,d2,e2,g2⟩:=qdd b;have ep:=Y9 a b
  by_cases hab:a<b
  ·rw[ep,if_pos hab];rw[decide_eq_true hab,g1,g2]at a3;simp only[e1,e2]at a1 a2 ⊢;clear hK tv tx ty;refine Ca.bQ (n:=K+300) ?_;rw[aA rfl (k19:E1.fn _=_) rfl];unfold wD aU at*;generalize LK .i64 []=l0 at*;simp[aD,f19,a0,a1,a2,a3]
  ·rw[ep,if_neg hab];rw[decide_eq_false hab,g1,g2]at a3;simp only[e1,e2]at a1 a2 ⊢;clear hK tv tx ty;refine Ca.bQ (n:=K+300) ?_;rw[aA rfl (k19:E1.fn _=_) rfl];unfold wD aU at*;generalize LK .i64 []=l0 at*;simp[aD,f19,a0,a1,a2,a3]
theorem aij {k:Int}(h:k=2\/k=3){S M:Nat}(hS:S<=1000){x y:Sv}(hx:x.of k S M)(hy:y.of k S M):Ca E1 21 [.d (aU k []),.d x.w.d,.d y.w.d] (.d (cK x y).w.d,none):=by
 have tx:=adO h hS hx;have ty:=adO h hS hy;have tv:=Ca.gM (Ca.bQ (fJ 0 k []));rw[v23 h]at tv;obtain⟨m0,a0⟩:=tv.any;obtain⟨m1,a1⟩:=tx.any;obtain⟨m2,a2⟩:=ty.any;rcases h with rfl|rfl
 ·obtain⟨i,n,rfl,hn0,hn1,hin⟩:=tC hx;obtain⟨j,m,rfl,hm0,hm1,hjm⟩:=tC hy;obtain⟨K,hK⟩:∃ K,K=m0+m1+m2:=⟨_,rfl⟩
  replace a0:=a0 K ae;replace a1:=a1 K ae;replace a2:=a2 K ae;rw[Za];have w1:ak .i64 (n+m)=n+m:=wrap_i64 ae;have hc1:∀ i n,(Sv.c i n).w.d=wD false [] [] n i 0 [] []:=fun i n=>rfl
  rw[hc1]at a1 a2;cases i<;>cases j<;>by_cases h:1099511627776<n+m<;>simp only[h,Bool.true_or,Xc1,Bool.or_true,decide_true,decide_false,if_true,if_false,Qh1,Bool.or_false,hc1] <;>
  (clear hK tv tx ty;refine Ca.bQ (n:=K+300) ?_;rw[aA rfl (k21:E1.fn _=_) rfl];unfold wD aU at*;generalize LK .i64 []=l0 at*;simp[f21,a0,a1,a2,h,w1])
 ·obtain⟨a,rfl,_,_,ha⟩:=tF hx;obtain⟨b,rfl,_,_,hb⟩:=tF hy;obtain⟨m3,a3⟩:=(Ca.gM (Hq a b ae ae)).any;obtain⟨K,hK⟩:∃ K,K=m0+m1+m2+m3:=⟨_,rfl⟩
  replace a0:=a0 K ae;replace a1:=a1 K ae;replace a2:=a2 K ae;replace a3:=a3 K ae;obtain⟨s1,n1,d1,e1,g1⟩:=qdd a;obtain⟨s2,n2,d2,e2,g2⟩:=qdd b;rw[Y_];obtain⟨s3,n3,d3,e3,g3⟩:=qdd (a*b);rw[g1,g2,g3]at a3;rw[e1]at a1;rw[e2]at a2;rw[e1,e2,e3];clear hK tv tx ty;refine Ca.bQ (n:=K+300) ?_;rw[aA rfl (k21:E1.fn _=_) rfl];unfold wD aU at*;generalize LK .i64 []=l0 at*;simp[aD,f21,a0,a1,a2,a3]
section mk
variable {k:Int} (h:k=2\/k=3) {S M:Nat} (hS:S<=1000) {x y:List Sv} (hx:ik S M (dG k []) x) (hy:ik S M (dG k []) y)
include h hS hx
theorem acM:Ca E1 53 [.d (aU k []),.d (bN k x).d] (.d (bN k x).d,none):=by
 rw[En h]at hx;obtain⟨a,rfl,ha⟩:=jX hx;rw[mk_one (s23 h)];exact adO h hS ha
theorem adS:Ca E1 1104 [.d (aU k []),.d (bN k x).d] (dB (zx k [] x),none)/\Ca E1 1126 [.d (aU k []),.d (bN k x).d] (dB (zx k [] x),none):=by
 have hv:=v23 h;have ok1:=KE hv hS hx;have ok0:(bN k (bG k [])).OK:=KE hv (S:=1) (M:=1) ae (kP ae (bV hv));have ez:bN k (bG k [])=(dO k).w:=by
  show bN k ((dG k []).map dO)=_;rw[En h];exact mk_one (s23 h) _
 obtain⟨K,hK,a1,a2,a3,a4⟩:=((Ca.gM (pI _ ok1 _ ok0)).j ((Ca.gM (yU _ ok1 _ ok0)).j ((uJ hv).j ((uK (s23 h)).any)))).at 0;unfold zx;rw[show(dG k []).map dO=bG k [] from rfl]at a3;rw[<-ez]at a4;generalize (bN k x).eq (bN k (bG k []))=b at*;obtain⟨xs',Y6,Y7,xc,xb,xu,xp,xq,ex⟩:=(bN k x).aH;obtain⟨zs,wS,wT,zc,zb,zu,zp,zq,ez'⟩:=(bN k (bG k [])).aH;simp only[ex,ez']at*;clear ok1 ok0 hx ex ez ez' hv;unfold wD aU at*;generalize LK .i64 []=l9 at*;refine⟨?_,?_⟩
 ·refine Ca.bQ (n:=K+100) ?_;rw[aA rfl (aO 1104 f1104:E1.fn _=_) rfl];simp[f1104,a1,a3]
 ·refine Ca.bQ (n:=K+100) ?_;rw[aA rfl (aO 1126 f1126:E1.fn _=_) rfl];simp[f1126,a2,a4]
include hy
theorem acT:Ca E1 14 [.d (aU k []),.d (bN k x).d,.d (bN k y).d] (.d (bN k (bT (dG k []) x y)).d,none):=by
 have hs:=s23 h;have vx:=pV (v23 h) hS hx;have vy:=pV (v23 h) hS hy;rw[En h]at hx hy ⊢;obtain⟨a,rfl,ha⟩:=jX hx;obtain⟨b,rfl,hb⟩:=jX hy;show Ca E1 14 _ (.d (bN k [dn k a b]).d,none);rw[mk_one hs]at*;rw[mk_one hs]at*;rw[mk_one hs];exact V6 hs _ _ _ _ _ vx vy (aj1 h hS ha hb)
theorem af9:Ca E1 13 [.d (aU k []),.d (bN k x).d,.d (bN k y).d] (.d (bN k (bF x y)).d,none)/\Ca E1 21 [.d (aU k []),.d (bN k x).d,.d (bN k y).d] (.d (bN k (bF x y)).d,none):=by
 have hs:=s23 h;have vx:=pV (v23 h) hS hx;have vy:=pV (v23 h) hS hy;rw[En h]at hx hy;obtain⟨a,rfl,ha⟩:=jX hx;obtain⟨b,rfl,hb⟩:=jX hy;show Ca E1 13 _ (.d (bN k [cK a b]).d,none)/\Ca E1 21 _ (.d (bN k [cK a b]).d,none);rw[mk_one hs]at*;rw[mk_one hs]at*;rw[mk_one hs];exact⟨Rq hs _ _ _ _ _ vx vy (aii h hS ha hb),aij h hS ha hb⟩
theorem adT:Ca E1 19 [.d (aU k []),.d (bN k x).d,.d (bN k y).d] (.d (bN k (bT (dG k []) x y)).d,none):=by
 have hs:=s23 h;rw[En h]at hx hy ⊢;obtain⟨a,rfl,ha⟩:=jX hx;obtain⟨b,rfl,hb⟩:=jX hy;show Ca E1 19 _ (.d (bN k [dn k a b]).d,none);rw[mk_one hs,mk_one hs,mk_one hs];exact aj3 h hS ha hb
theorem afZ:Ca E1 24 [.d (aU k []),.d (bN k x).d,.d (bN k y).d] (dB (dV k x y),none)/\Ca E1 25 [.d (aU k []),.d (bN k x).d,.d (bN k y).d] (dB (dV k x y),none):=by
 have hs:=s23 h;have vx:=pV (v23 h) hS hx;have vy:=pV (v23 h) hS hy;have tx:=acM h hS hx;have ty:=acM h hS hy;rw[En h]at hx hy;obtain⟨a,rfl,ha⟩:=jX hx;obtain⟨b,rfl,hb⟩:=jX hy;rw[mk_one hs]at*;rw[mk_one hs]at*;show Ca E1 24 _ (dB (uN k a b),none)/\Ca E1 25 _ (dB (uN k a b),none);rcases h with rfl|rfl
 ·obtain⟨i,n,rfl,_⟩:=tC ha;obtain⟨j,m,rfl,_⟩:=tC hb;exact⟨AL hs _ _ _ _ _ vx vy (Kk i j n m),IC _ _ i j n m tx ty⟩
 ·obtain⟨p,rfl,_,_,hp⟩:=tF ha;obtain⟨q,rfl,_,_,hq⟩:=tF hb;have e:uN 3 (.q p) (.q q)=decide (q<p):=by
   show((3:Int)==3&&decide (q<p))=_;simp
  rw[e];exact⟨AL hs _ _ _ _ _ vx vy (Dq p q ae ae),IB _ _ p q ae ae tx ty⟩
end mk
section wts
variable {k:Int} (h:k=2\/k=3)
include h
theorem agp:Ca E1 35 [.d (aU k [])] (.d (bN k (bG k [])).d,none):=by
 have:=uK (s23 h);rw[<-mk_one (s23 h)]at this;show Ca E1 35 _ (.d (bN k ((dG k []).map dO)).d,none);rw[En h];exact this
theorem afe (v:Int)(hv:ib v):Ca E1 16 [.d (aU k []),dI v] (.d (bN k (pW k [] v)).d,none):=by
 rcases h with rfl|rfl
 ·show Ca E1 16 _ (.d (bN 2 [Dv 2 v]).d,none);rw[mk_one (s23 (.inl rfl))];unfold Dv;exact ahr v hv
 ·show Ca E1 16 _ (.d (bN 3 [Dv 3 v]).d,none);rw[mk_one (s23 (.inr rfl))];unfold Dv;exact aey v hv
theorem aky (l:List Int)(hl:∀ x ∈ l,ib x)(i one:Nat):Ca E1 1075 [.d (aU k []),.d (.s 1 (LK .i64 l)),dI i,dI one] (.d (bN k (o8 k [] l i one)).d,none) :=
 aju (afe h) (aaQ (v23 h)).2 (agp h) l hl i one
theorem akz:TH k [] (bN k) (bT (dG k [])) (bN k (bG k [])) (zx k []) (GF k []) 20 where
 mono n x h:=⟨ae,h.2.1,h.2.2.mono ae⟩
 zero:=uJ (v23 h)
 pz x g:=by
  have h3:=g.ofs (v23 h) ae;have:=acT h ae h3 (kP (M:=216) ae (bV (v23 h)));rw[v_ (S:=3) (M:=216) ae (bV (v23 h)) h3]at this;exact this
 tk x g:=acM h ae (g.ofs (v23 h) ae)
 p1 n x y hn hx hy:=acT h (S:=3) (M:=216) ae (hx.ofs (v23 h) ae) (hy.ofs (v23 h) ae)
 p2 n x y hn hx hy:=adT h (S:=3) (M:=216) ae (hx.ofs (v23 h) ae) (hy.ofs (v23 h) ae)
 pg n x y hn hx hy:=by
  have h1:=hx.1;refine⟨ae,(ah5 (bV (v23 h))).pp hx.2.1 hy.2.1,?_⟩;exact(Xr (bV (v23 h)) hx.2.1 hy.2.1 hx.2.2 hy.2.2).mono ae
 z1 n x hn hx:=(adS h ae (hx.ofs (v23 h) ae)).1
 z2 n x hn hx:=(adS h ae (hx.ofs (v23 h) ae)).2
theorem ag5 {sy n:Nat}{bg fin:List (List Sv)}(hsy:1<=sy/\sy<=32)(hn:n<=64)(h1:bg.length=n)(h2:fin.length=n)(hi:∀ x ∈ bg,Wt k [] x)(hf:∀ x ∈ fin,Wt k [] x){l:List (Ar (List Sv))}(hl:aia k [] sy n l) :
  Ca E1 1024 [.d (Jf k [] sy n (bg.map (bN k)) (fin.map (bN k)) (bN k) l)] (.d (.t [Jf k [] sy n (bg.map (bN k)) (fin.map (bN k)) (bN k) (fB (bT (dG k [])) (zx k []) l),vI 0]),none):=by
 have hv:=v23 h;have h4:=hl.1;have ok:∀ {l:List (List Sv)},(∀ x ∈ l,Wt k [] x)->∀ w ∈ l.map (bN k),w.OK:=fun h w hw=>by obtain⟨x,hx,rfl⟩:=Qg1.1 hw;exact(PW hv (h x hx)).1
 have a1:=WS (e:=bN k) k [] sy n (bg.map (bN k)) (fin.map (bN k)) l (H6 hv) (by simp;omega) (by simp;omega) ae (ok hi) (ok hf) (fun a ha=>(PW hv (hl.2 a ha).1).1);rw[NY hv hsy hn h1 h2 hi hf hl]at a1;exact Ig (akz h) sy n bg fin l (H6 hv) ae ae ae ae (fun x hx=>(hi x hx).gf) (fun x hx=>(hf x hx).gf) (fun a ha=>(hl.2 a ha).1.gf) a1
end wts
end Fi.S
noncomputable section
namespace Fi.S
open Go Fi
set_option maxHeartbeats 8000000
set_option maxRecDepth 10000
section sizes
variable {k:Int} (h:k=2\/k=3)
theorem afg (h:k=2\/k=3):∀ x ∈ dG k [],single x=true:=bV (v23 h)
def Jh:Nat->Nat
 | 0=>3
 | j+1=>2*Jh j+2
theorem zJ:∀ {i j:Nat},i<=j->Jh i<=Jh j
 | i, 0, h => by obtain rfl : i = 0 :=ae
                 exact Qd2 _
 | i,j+1,h=>by
  rcases Qg0 i (j+1) with g|g
  ·have:=zJ (show i<=j by omega);show Jh i<=2*Jh j+2;omega
  ·obtain rfl:i=j+1:=ae;exact Qd2 _
theorem uO:∀ j,1<=Jh j
 | 0=>by decide
 | j+1=>by show 1<=2*Jh j+2;omega
def Og (k:Int)(j:Nat)(x:List Sv):Prop:=ik (Jh j) 1 (dG k []) x
theorem Og.gd {j:Nat}{x:List Sv}(g:Og k j x):Ba (dG k []) x:=⟨Jh j,1,uO j,Qd2 _,g⟩
theorem Og.mono {i j:Nat}{x:List Sv}(g:Og k i x)(hij:i<=j):Og k j x:=⟨g.1,fun a b c hb hc=>(g.2 a b c hb hc).mono (zJ hij) (Qd2 _)⟩
include h
theorem Og.wt {x:List Sv}(g:Wt k [] x):Og k 0 x:=by
 have g1:=g.1;unfold Og;rw[En h]at g1 ⊢;refine⟨g1.1,fun i k' y hk hy => ?_⟩;have g2:=g1.2 i k' y hk hy;have:k'=k:=by
  cases i with
  | zero=>simpa using hk.symm
  | succ i=>simp at hk
 subst this;rcases h with rfl|rfl
 ·obtain⟨i,n,rfl,a,b,c⟩:=tC g2;exact⟨rfl,a,b,c⟩
 ·obtain⟨q,rfl,a,b,c⟩:=tF g2;exact⟨.inr ⟨rfl,a,b⟩,c⟩
theorem Og.zero (j:Nat):Og k j (bG k []):=kP (uO j) (afg h)
theorem Og.times {j:Nat}{x y:List Sv}(gx:Og k j x)(gy:Og k j y):Og k (j+1) (bF x y):=by
 have:=DN (uO j) (Qd2 1) (afg h) gx gy;refine⟨this.1,fun a b c hb hc=>(this.2 a b c hb hc).mono ?_ (Qd2 _)⟩;show 1*(Jh j+Jh j+1)+1<=2*Jh j+2;omega
theorem Lc {j:Nat}(hj:j<=4){x y:List Sv}(gx:Og k j x)(gy:Og k j y):Ca E1 13 [.d (aU k []),.d (bN k x).d,.d (bN k y).d] (.d (bN k (bF x y)).d,none)/\Ca E1 21 [.d (aU k []),.d (bN k x).d,.d (bN k y).d] (.d (bN k (bF x y)).d,none):=by
 have h4:Jh j<=78:=zJ hj;exact af9 h ae gx gy
theorem uP {j:Nat}(hj:j<=5){x y:List Sv}(gx:Og k j x)(gy:Og k j y):Ca E1 24 [.d (aU k []),.d (bN k x).d,.d (bN k y).d] (dB (dV k x y),none)/\Ca E1 25 [.d (aU k []),.d (bN k x).d,.d (bN k y).d] (dB (dV k x y),none):=by
 have h4:Jh j<=158:=zJ hj;exact afZ h ae gx gy
theorem X7 {j:Nat}(hj:j<=5){x:List Sv}(gx:Og k j x):Ca E1 14 [.d (aU k []),.d (bN k x).d,.d (bN k (bG k [])).d] (.d (bN k x).d,none):=by
 have h4:Jh j<=158:=zJ hj;have:=acT h ae gx (Og.zero h j);rw[show bG k []=(dG k []).map dO from rfl,v_ (S:=Jh j) (M:=1) (uO j) (afg h) gx]at this;exact this
end sizes
section sel
variable {α:Type} {bt:α->α->Bool} {tm:α->α->α} {z:α} {Q:α->Prop}
theorem zK {l:List α}(hz:Q z)(h:∀ x ∈ l,Q x)(i:Nat):Q (l.getD i z):=b_ hz h i
theorem X8 (v:List α):∀ (l:List (Ar α)) (out:List α),(∀ x ∈ out,Q x)->(∀ a ∈ l,Q (tm a.x (v.getD a.t.toNat z)))->∀ x ∈ l.foldl (xY bt tm z v) out,Q x
 | [],_,ho,_=>ho
 | a::l,out,ho,h=>by
  rw[Ql1];refine X8 v l _ (fun x hx => ?_) fun b hb=>h b (by simp[hb])
  unfold xY at hx;split at hx
  ·rcases Q41 hx with g|rfl
   ·exact ho x g
   ·exact h a aC
  ·exact ho x hx
theorem acR (hz:Q z)(n:Nat):∀ x ∈ List.replicate n z,Q x:=fun x hx=>by rw[Xf2 hx];exact hz
theorem afh {u v:List α}(hu:∀ x ∈ u,Q x)(hv:∀ x ∈ v,Q x):∀ x ∈ lV bt u v,Q x:=fun x hx=>by
 unfold lV at hx;obtain⟨i,hi,rfl⟩:=Xd0 hx;rw[List.getElem_zipWith];split
 ·exact hv _ (Qi0 _)
 ·exact hu _ (Qi0 _)
theorem Od (n:Nat)(l:List (Ar α))(v:List α):∀ k,PB (tO bt tm z n l v) bt k=XP bt tm z n l v k
 | 0=>rfl
 | k+1=>by
  show lV bt (PB (tO bt tm z n l v) bt k) (tO bt tm z n l v (k+1))=lV bt (XP bt tm z n l v k) (tO bt tm z n l v (k+1));rw[Od n l v k]
end sel
section pot
variable {k:Int} (h:k=2\/k=3)
abbrev mD (k:Int)(n:Nat)(l:List (Ar (List Sv))):Prop:=l.length<=11/\∀ a ∈ l,Wt k [] a.x/\(0<=a.f/\a.f<n)/\(0<=a.t/\a.t<n)
theorem mD.pa {n:Nat}{l:List (Ar (List Sv))}(hl:mD k n l):PA (Ba (dG k [])) l:=fun a ha=>(hl.2 a ha).1.gd
theorem mD.ins {n:Nat}{l:List (Ar (List Sv))}(hl:mD k n l):∀ a ∈ l,a.f.toNat<n/\a.t.toNat<n:=fun a ha=>by
 obtain⟨_,g1,g2⟩:=hl.2 a ha;omega
theorem mD.turn {n:Nat}{l:List (Ar (List Sv))}(hl:mD k n l):mD k n (l.map Ar.turn):=⟨by rw[Qj1];exact hl.1,fun a ha=>by
 obtain⟨b,hb,rfl⟩:=Qg1.1 ha;obtain⟨g0,g1,g2⟩:=hl.2 b hb;exact⟨g0,g2,g1⟩⟩
include h
theorem wC {n:Nat}{fin:List (List Sv)}(hf:∀ x ∈ fin,Wt k [] x){l:List (Ar (List Sv))}(hl:mD k n l):∀ j,∀ x ∈ tO (dV k) bF (bG k []) n l fin j,Og k j x
 | 0=>fun x hx=>Og.wt h (hf x hx)
 | j+1=>X8 _ l _ (acR (Og.zero h _) n) fun a ha=>Og.times h ((Og.wt h (hl.2 a ha).1).mono (Qr1 _)) (zK (Og.zero h j) (wC hf hl j) _)
omit h in
theorem Ld {n:Nat}{fin:List (List Sv)}(lf:fin.length=n)(l:List (Ar (List Sv))):∀ j,(tO (dV k) bF (bG k []) n l fin j).length=n
 | 0=>lf
 | j+1=>K9 ..
theorem X9 {n:Nat}{fin:List (List Sv)}(hf:∀ x ∈ fin,Wt k [] x){l:List (Ar (List Sv))}(hl:mD k n l):∀ j,∀ x ∈ PB (tO (dV k) bF (bG k []) n l fin) (dV k) j,Og k j x
 | 0=>wC h hf hl 0
 | j+1=>afh (fun x hx=>(X9 hf hl j x hx).mono ae) (wC h hf hl (j+1))
theorem abQ {n:Nat}(hn:n<=4)(n0:0<n)(sy:Int)(bg:List D){fin:List (List Sv)}(hf:∀ x ∈ fin,Wt k [] x)(lf:fin.length=n){l:List (Ar (List Sv))}(hl:mD k n l) :
  Ca E1 1712 [.d (jh k [] sy n bg (fin.map fun x=>(bN k x).d) (l.map (Ar.d (bN k))))] (.d (.s 1 ((List.range n).map fun j=>.s 8 ((tO (dV k) bF (bG k []) n l fin j).map fun x=>(bN k x).d))),none):=by
 have hl1:=hl.1;refine Sl k [] sy n ae n0 bg _ (fun j=>(tO (dV k) bF (bG k []) n l fin j).map fun x=>(bN k x).d) fun j hj => ?_
 refine Oa (e:=bN k) k [] sy n ae n0 bg _ l ae (fun a ha=>(hl.2 a ha).2) _ (Ld lf l j) (dV k) bF (bG k []) (uJ (v23 h)) fun i a ha => ?_
 have ga:=(Og.wt h (hl.2 a (Qa2 ha)).1).mono (Qr1 j);have gv:=zK (z:=bG k []) (Og.zero h j) (wC h hf hl j) a.t.toNat;have gt:=Og.times h ga gv;have go:Og k (j+1) (((l.take i).foldl (xY (dV k) bF (bG k []) (tO (dV k) bF (bG k []) n l fin j)) (List.replicate n (bG k []))).getD a.f.toNat (bG k [])) :=
  zK (Og.zero h _) (X8 _ _ _ (acR (Og.zero h _) n) fun b hb=>Og.times h ((Og.wt h (hl.2 b (Qn1 hb)).1).mono (Qr1 _)) (zK (Og.zero h j) (wC h hf hl j) _)) _
 exact⟨(Lc h ae ga gv).1,(uP h ae gt go).1⟩
theorem Qb {n:Nat}(hn:n<=4)(n0:0<n)(sy:Int)(bg:List D){fin:List (List Sv)}(hf:∀ x ∈ fin,Wt k [] x)(lf:fin.length=n){l:List (Ar (List Sv))}(hl:mD k n l) :
  Ca E1 1713 [.d (jh k [] sy n bg (fin.map fun x=>(bN k x).d) (l.map (Ar.d (bN k))))] (.d (.s 8 ((jB (bT (dG k [])) bF (bG k []) n (l.map Ar.turn) fin (n-1)).map fun x=>(bN k x).d)),none):=by
 have e:jB (bT (dG k [])) bF (bG k []) n (l.map Ar.turn) fin (n-1)=PB (tO (dV k) bF (bG k []) n l fin) (dV k) (n-1):=by
  rw[Od];exact(N_ (X3 h).gm (fun hx hy=>xZ h hx hy) hl.pa hl.ins (fun x hx=>(hf x hx).gd) lf (n-1)).symm
 rw[e];exact abK (e:=bN k) k [] sy n ae n0 bg _ _ _ (Ld lf l) (dV k) (bG k []) (abQ h hn n0 sy bg hf lf hl) (uJ (v23 h))
  (fun j hj w hw=>X7 h ae (wC h hf hl j w hw))
  (fun j i w r hj hw hr=>(uP h (j:=j+1) ae (wC h hf hl (j+1) w (Qa2 hw)) ((X9 h hf hl j r (Qa2 hr)).mono ae)).1)
theorem X_ {n:Nat}{fin:List (List Sv)}(hf:∀ x ∈ fin,Wt k [] x)(lf:fin.length=n){l:List (Ar (List Sv))}(hl:mD k n l)(j:Nat):∀ x ∈ jB (bT (dG k [])) bF (bG k []) n l fin j,Og k j x:=by
 have e:jB (bT (dG k [])) bF (bG k []) n l fin j=PB (tO (dV k) bF (bG k []) n (l.map Ar.turn) fin) (dV k) j:=by
  rw[Od,N_ (X3 h).gm (fun hx hy=>xZ h hx hy) hl.turn.pa hl.turn.ins (fun x hx=>(hf x hx).gd) lf j,Gu]
 rw[e];exact X9 h hf hl.turn j
theorem abR {x y:List Sv}(hx:Wt k [] x)(hy:Wt k [] y):Wt k [] (bT (dG k []) x y):=by
 rw[<-xZ h hy.gd hx.gd];split
 ·exact hy
 ·exact hx
theorem Eo {n:Nat}{dS:List Sv->Bool}{l:List (Ar (List Sv))}(hl:mD k n l):mD k n (fB (bT (dG k [])) dS l):=by
 refine⟨RY l 11 hl.1,fun a ha => ?_⟩;have key:∀ (l p:List (Ar (List Sv))),(∀ a ∈ l,Wt k [] a.x)->(∀ a ∈ p,Wt k [] a.x)->∀ a ∈ l.foldl (fun p x=>bB (bT (dG k [])) x p) p,Wt k [] a.x:=by
  intro l
  induction l with
  | nil=>intro p _ hp;exact hp
  | cons x l ih =>
   intro p hl hp;have hx:=hl x aC;rw[Ql1];exact ih _ (fun a ha=>hl a (by simp[ha])) (nK (bT (dG k [])) x (fun a=>Wt k [] a.x) (fun a=>Wt k [] a.x) hx (fun y hy=>hy) (fun y hy=>abR h hy hx) p hp)
 obtain⟨b,hb,e1,e2,e3⟩:=(qU (pl:=bT (dG k [])) (l:=l) a).1 ⟨a,(Q31.1 ha).1,rfl,rfl,rfl⟩;obtain⟨_,g1,g2⟩:=hl.2 b hb;exact⟨key l [] (fun a ha=>(hl.2 a ha).1) (fun a ha=>by cases ha) a (Q31.1 ha).1,e1 ▸ g1,e3 ▸ g2⟩
end pot
theorem IG (k:Int)(sy st:Int)(bg fin:List (List Sv))(l:List (Ar (List Sv))):Jf k [] sy st (bg.map (bN k)) (fin.map (bN k)) (bN k) l=jh k [] sy st (bg.map fun x=>(bN k x).d) (fin.map fun x=>(bN k x).d) (l.map (Ar.d (bN k))):=by
 unfold Jf;rw[Q2,Q2];rfl
theorem Oe (vi em:Bool)(st:Int)(li lf la:List Int)(hli:∀ x ∈ li,ib x)(hlf:∀ x ∈ lf,ib x)(hla:∀ x ∈ la,ib x)(k:Int)(hk:k=if vi then 3 else 2) :
  ∃ (n:Nat) (bg fin:List (List Sv)) (m:List (Ar (List Sv))),n<=4/\0<n/\bg.length=n/\fin.length=n/\(∀ x ∈ bg,Wt k [] x)/\(∀ x ∈ fin,Wt k [] x)/\mD k n m/\(∀ a ∈ m,0<=a.l/\a.l<=(2:Nat))/\fB (bT (dG k [])) (zx k []) m=m /\
   Ca E1 1707 [dB vi,.d (.a [vI st,.s 1 (LK .i64 li),.s 1 (LK .i64 lf),.s 1 (LK .i64 la),vB em])] (.d (jh k [] 2 n (bg.map fun x=>(bN k x).d) (fin.map fun x=>(bN k x).d) (m.map (Ar.d (bN k)))),none):=by
 have h:k=2\/k=3:=by rw[hk];cases vi<;>simp
 have hv:=v23 h;obtain⟨hn0,hn4⟩:=NS st;have hm:=NT hv 2 ae (stM st) hn0 la;obtain⟨l,c2,anF,hl⟩:∃ l,Ca E1 1028 [.d (.a [vI st,.s 1 (LK .i64 li),.s 1 (LK .i64 lf),.s 1 (LK .i64 la),vB em]),.d (aU k []),dI 2,dI 4]
   (.d (Jf k [] 2 (stM st) ((p9 k [] li 0 (stM st)).map (bN k)) ((p9 k [] lf (stM st-1) (stM st)).map (bN k)) (bN k) l),none)/\l.length<=10/\∀ a ∈ l,Wt k [] a.x/\(0<=a.f/\a.f<stM st)/\(0<=a.l/\a.l<=(2:Nat))/\(0<=a.t/\a.t<stM st):=by
  cases em with
  | false=>exact⟨_,ahv (afe h) (aky h) st li lf la 2 ae hli hlf hla,Sa ..,fun a ha=>by
    have g:=hm a ha;exact⟨g.wt hv,g.f,by have:=g.l;omega,g.t⟩⟩
  | true=>exact⟨_,ag2 (afe h) (aky h) st li lf la 2 ae hli hlf hla,NW ..,fun a ha=>by
    obtain⟨j,_,rfl⟩:=Qg1.1 ha;have r:∀ x:Int,0<=x % (stM st:Int)/\x % (stM st:Int)<(stM st:Int):=fun x=>⟨Qo2 x ae,Qm1 x ae⟩
    have q:∀ x:Int,0<=x % (2+1:Int)/\x % (2+1:Int)<2+1:=fun x=>⟨Qo2 x ae,Qm1 x ae⟩
    have q1:=q (la.getD (4*j+1) 0);exact⟨abD hv _,r _,⟨q1.1,by show la.getD (4*j+1) 0 % (2+1)<=_;omega⟩,r _⟩⟩
 have l1:=K3 k [] li 0 (stM st);have l2:=K3 k [] lf (stM st-1) (stM st);have w1:∀ x ∈ p9 k [] li 0 (stM st),Wt k [] x:=fun x hx=>by
  obtain⟨i,_,rfl⟩:=Qg1.1 hx;exact Xu hv li i 0
 have w2:∀ x ∈ p9 k [] lf (stM st-1) (stM st),Wt k [] x:=fun x hx=>by
  obtain⟨i,_,rfl⟩:=Qg1.1 hx;exact Xu hv lf i _
 generalize p9 k [] li 0 (stM st)=bg,p9 k [] lf (stM st-1) (stM st)=fin at*;generalize stM st=n at*;have c3:=abd (akz h) 2 n bg fin l aC ae ae ae ae (fun x hx=>(w1 x hx).gf) (fun x hx=>(w2 x hx).gf) (fun a ha=>(hl a ha).1.gf);refine⟨n,bg,fin,_,hn4,hn0,l1,l2,w1,w2,Eo (dS:=zx k []) h ⟨ae,fun a ha=>⟨(hl a ha).1,(hl a ha).2.1,(hl a ha).2.2.2⟩⟩,fun a ha => ?_,NQ _ _,?_⟩
 ·obtain⟨b,hb,e1,e2,e3⟩:=(qU (pl:=bT (dG k [])) (l:=l) a).1 ⟨a,(Q31.1 ha).1,rfl,rfl,rfl⟩;rw[<-e2];exact(hl b hb).2.2.1
 ·rw[IG]at c2 c3;rw[IG]at c3;exact X4 vi em st li lf la k hk n _ _ _ _ _ _ c2 c3
section norm
variable {k:Int} (h:k=2\/k=3) {n:Nat} (hn:n<=4) (n0:0<n) {bg fin:List (List Sv)} (li:bg.length=n) (lf:fin.length=n) (wi:∀ x ∈ bg,Wt k [] x) (wf:∀ x ∈ fin,Wt k [] x) {m:List (Ar (List Sv))} (hm:mD k n m) (hml:∀ a ∈ m,0<=a.l/\a.l<=(2:Nat))
include h hn n0 li lf wi wf hm hml
theorem Ya:Ca E1 1024 [.d (jh k [] 2 n (bg.map fun x=>(bN k x).d) (fin.map fun x=>(bN k x).d) (m.map (Ar.d (bN k))))] (.d (.t [jh k [] 2 n (bg.map fun x=>(bN k x).d) (fin.map fun x=>(bN k x).d) ((fB (bT (dG k [])) (zx k []) m).map (Ar.d (bN k))),vI 0]),none):=by
 have:=ag5 (sy:=2) h ae ae li lf wi wf (l:=m) ⟨hm.1,fun a ha=>⟨(hm.2 a ha).1,(hm.2 a ha).2.1,hml a ha,(hm.2 a ha).2.2⟩⟩;rw[IG,IG]at this;exact this
theorem II:Ca E1 1714 [.d (jh k [] 2 n (bg.map fun x=>(bN k x).d) (fin.map fun x=>(bN k x).d) (m.map (Ar.d (bN k))))]
  (.d (.t [.s 8 ((jB (bT (dG k [])) bF (bG k []) n ((fB (bT (dG k [])) (zx k []) m).map Ar.turn) fin (n-1)).map fun x=>(bN k x).d),vI 0]),none) :=
 Fp h (Ya h hn n0 li lf wi wf hm hml) (Qb h hn n0 2 _ wf lf (Eo h hm))
theorem Qc:Ca E1 1715 [.d (jh k [] 2 n (bg.map fun x=>(bN k x).d) (fin.map fun x=>(bN k x).d) (m.map (Ar.d (bN k))))]
  (.d (.t [.s 8 ((jB (bT (dG k [])) bF (bG k []) n (fB (bT (dG k [])) (zx k []) m) bg (n-1)).map fun x=>(bN k x).d),vI 0]),none):=by
 have hN:=Eo (dS:=zx k []) h hm;have c1:=Sc (e:=bN k) k [] 2 n (bg.map fun x=>(bN k x).d) (fin.map fun x=>(bN k x).d) (fB (bT (dG k [])) (zx k []) m) (by have:=hN.1;omega);have c2:=Qb h hn n0 2 (fin.map fun x=>(bN k x).d) wi li hN.turn;rw[Gu]at c2;exact XZ h (Ya h hn n0 li lf wi wf hm hml) c1 c2
end norm
end Fi.S
noncomputable section
namespace Fi.S
open Go Fi
set_option maxHeartbeats 8000000
set_option maxRecDepth 10000
section inj
variable {k:Int} (h:k=2\/k=3)
include h
theorem anm {S M:Nat}{x y:Sv}(hx:x.of k S M)(hy:y.of k S M)(he:x.w=y.w):x=y:=by
 rcases h with rfl|rfl
 ·obtain⟨i,n,rfl,_⟩:=tC hx;obtain⟨j,m,rfl,_⟩:=tC hy
  injection he with _ _ _ h1 h2
  rw[h1,h2]
 ·obtain⟨a,rfl,_⟩:=tF hx;obtain⟨b,rfl,_⟩:=tF hy
  injection he with h1 h2 h3
  rw[<-sM a,h1,h2,h3,sM]
theorem mk_inj {x y:List Sv}(hx:Ba (dG k []) x)(hy:Ba (dG k []) y)(he:bN k x=bN k y):x=y:=by
 obtain⟨a,S,M,rfl,ha⟩:=IE h hx;obtain⟨b,S',M',rfl,hb⟩:=IE h hy;have hs:single k=true:=by rcases h with rfl|rfl<;>decide
 rw[mk_one hs,mk_one hs]at he;rw[anm h (ha.mono (Q01 S S') (Q01 M M')) (hb.mono (Qy2 S S') (Qy2 M M')) he]
def eqW (k:Int)(x y:List Sv):Bool:=(bN k x).eq (bN k y)
theorem aff {x y:List Sv}(hx:Ba (dG k []) x)(hy:Ba (dG k []) y):eqW k x y=true↔x=y :=
 ⟨fun he=>mk_inj h hx hy (W.PO he),fun he=>by rw[he];exact W.O_ _⟩
theorem agq {j:Nat}(hj:j<=5){x:List Sv}(g:Og k j x):(bN k x).OK:=by
 have:Jh j<=158:=zJ hj;exact KE (v23 h) (S:=Jh j) ae g
theorem adW {i j:Nat}(hi:i<=5)(hj:j<=5){x y:List Sv}(gx:Og k i x)(gy:Og k j y):Ca E1 34 [.d (bN k x).d,.d (bN k y).d] (dB (eqW k x y),none)/\Ca E1 12 [.d (bN k x).d,.d (bN k y).d] (dB (eqW k x y),none) :=
 ⟨Ca.gM (pI _ (agq h hi gx) _ (agq h hj gy)),Ca.gM (yU _ (agq h hi gx) _ (agq h hj gy))⟩
theorem af_ {j:Nat}(hj:j<=5){x:List Sv}(g:Og k j x):Ca E1 1104 [.d (aU k []),.d (bN k x).d] (dB (zx k [] x),none)/\Ca E1 1126 [.d (aU k []),.d (bN k x).d] (dB (zx k [] x),none):=by
 have:Jh j<=158:=zJ hj;exact adS h (S:=Jh j) ae g
theorem adw {x:List Sv}(hx:Ba (dG k []) x):dV k x x=false:=P_ h hx hx (xX (X3 h) hx)
end inj
section ak3
variable {k:Int} (h:k=2\/k=3) {n:Nat} (hn:n<=4) (n0:0<n) {bg fin:List (List Sv)} (li:bg.length=n) (lf:fin.length=n) (wi:∀ x ∈ bg,Wt k [] x) (wf:∀ x ∈ fin,Wt k [] x) {m:List (Ar (List Sv))} (hm:mD k n m) (hml:∀ a ∈ m,0<=a.l/\a.l<=(2:Nat)) (hid:fB (bT (dG k [])) (zx k []) m=m)
abbrev abx (k:Int)(n:Nat)(m:List (Ar (List Sv)))(fin:List (List Sv))(j:Nat):List (List Sv):=tO (dV k) bF (bG k []) n m fin j
abbrev ahk (k:Int)(n:Nat)(m:List (Ar (List Sv)))(bg fin:List (List Sv)):List Sv × Nat × Nat:=BST (dV k) (bT (dG k [])) bF (bG k []) n m bg fin
include h hm wf in
theorem acD (j q:Nat):aaG (bT (dG k [])) bF (bG k []) n m fin j q=(abx k n m fin j).getD q (bG k []):=by
 unfold aaG;rw[<-XQ (X3 h).gm (fun hx hy=>xZ h hx hy) hm.pa hm.ins (fun x hx=>(wf x hx).gd) j]
def anz (k:Int)(n:Nat)(m:List (Ar (List Sv)))(bg fin:List (List Sv))(K j:Nat)(so:List Sv)(st:Nat):Prop :=
 st<n/\j<=K/\Og k (K-j) so/\bF so ((abx k n m fin j).getD st (bG k []))=(ahk k n m bg fin).1
include h hn n0 li lf wi wf hm hml hid
omit hml hid in
theorem acE:∃ (w:List Sv) (k0 q0:Nat),ahk k n m bg fin=(w,k0,q0)/\Og k 4 w/\Ba (dG k []) w/\(∀ j q,q<n->lq (bT (dG k [])) (bF (bg.getD q (bG k [])) ((abx k n m fin j).getD q (bG k []))) w) /\
  ((w=bG k []/\k0=0/\q0=0)\/(w≠bG k []/\k0<n/\q0<n/\w=bF (bg.getD q0 (bG k [])) ((abx k n m fin k0).getD q0 (bG k [])) /\
   ∀ j q,j<n->q<n->bF (bg.getD q (bG k [])) ((abx k n m fin j).getD q (bG k []))=w->(j,q)=(k0,q0)\/plt (k0,q0) (j,q))):=by
 have pi:∀ x ∈ bg,Ba (dG k []) x:=fun x hx=>(wi x hx).gd
 have pf:∀ x ∈ fin,Ba (dG k []) x:=fun x hx=>(wf x hx).gd
 obtain⟨a1,a2,a3⟩:=acH (bt:=dV k) (X3 h) (fun hx hy=>xZ h hx hy) (fun x hx=>adw h hx) hm.pa hm.ins pf pi;have a4:=fun j q hq=>agj (bt:=dV k) (X3 h) (fun hx hy=>xZ h hx hy) (fun x hx=>adw h hx) hm.pa hm.ins pf lf pi n0 j q hq
 simp only[acD h wf hm]at a1 a2 a3 a4;have og:∀ j q,j<=3->Og k 4 (bF (bg.getD q (bG k [])) ((abx k n m fin j).getD q (bG k []))):=fun j q hj =>
  (Og.times h ((zK (Og.zero h 0) (fun x hx=>Og.wt h (wi x hx)) q).mono (Qr1 3)) ((zK (Og.zero h j) (wC h wf hm j) q).mono hj))
 obtain⟨r,hr⟩:∃ r,r=BST (dV k) (bT (dG k [])) bF (bG k []) n m bg fin:=⟨_,rfl⟩
 rw[<-hr]at a1 a2 a3 a4;obtain⟨w,k0,q0⟩:=r;refine⟨w,k0,q0,hr.symm,?_,a1,a4,?_⟩
 ·rcases a3 with a3|⟨_,a3,⟨a5,_⟩,_⟩
  ·injection a3 with a3
   rw[a3];exact Og.zero h 4
  ·show Og k 4 w;rw[show w=_ from a3];exact og _ _ (by have:k0<n:=a5;show k0<=3;omega)
 ·rcases a3 with a3|⟨b1,b2,⟨b3,b4⟩,b5⟩
  ·injection a3 with e1 e2
   injection e2 with e2 e3
   exact .inl ⟨e1,e2,e3⟩
  ·exact .inr ⟨b1,b3,b4,b2,b5⟩
omit hml hid in
theorem alR (w:List Sv)(k0 q0:Nat)(hb:ahk k n m bg fin=(w,k0,q0)) :
  Ca E1 1716 [.d (jh k [] 2 n (bg.map fun x=>(bN k x).d) (fin.map fun x=>(bN k x).d) (m.map (Ar.d (bN k)))),.d (.s 1 ((List.range n).map fun j=>.s 8 ((abx k n m fin j).map fun x=>(bN k x).d)))] (.d (.t [(bN k w).d,vI k0,vI q0]),none):=by
 have e:(w,k0,q0)=acs (dV k) (bG k []) (fun p=>bF (bg.getD p.2 (bG k [])) ((abx k n m fin p.1).getD p.2 (bG k []))) n n:=by
  rw[<-hb];show acs _ _ _ n n=_;simp only[acD h wf hm]
 have oi:∀ q,Og k 3 (bg.getD q (bG k [])):=fun q=>(zK (Og.zero h 0) (fun x hx=>Og.wt h (wi x hx)) q).mono ae
 have ov:∀ j q,j<n->Og k 3 ((abx k n m fin j).getD q (bG k [])):=fun j q hj=>(zK (Og.zero h j) (wC h wf hm j) q).mono ae
 exact ajY (e:=bN k) k [] 2 n ae bg _ _ (abx k n m fin) (Ld lf m) li (dV k) bF (bG k []) (Og k 4) (Og.zero h 4) (fun j q hj _=>Og.times h (oi q) (ov j q hj)) (uJ (v23 h))
  (fun j q hj _=>(Lc h ae (oi q) (ov j q hj)).1) (fun j q x hj _ gx=>(uP h ae (Og.times h (oi q) (ov j q hj)) gx).1) (w,k0,q0) e
def ac0 (k:Int)(n:Nat)(m:List (Ar (List Sv)))(bg fin:List (List Sv))(w:List Sv)(k0 q0:Nat):List Nat :=
 if zx k [] w then [] else bp (eqW k) bF m (fun j q=>(abx k n m fin j).getD q (bG k [])) w k0 (bg.getD q0 (bG k [])) q0
omit hn n0 li lf wi wf hm hml hid in
theorem adH {w:List Sv}(hw:Ba (dG k []) w):zx k [] w=true↔w=bG k [] :=
 ⟨fun hz=>Xx (v23 h) hw hz,fun hz=>by rw[hz];exact W.O_ _⟩
theorem aeM (w:List Sv)(k0 q0:Nat)(hb:ahk k n m bg fin=(w,k0,q0)) :
  Ca E1 1717 [.d (jh k [] 2 n (bg.map fun x=>(bN k x).d) (fin.map fun x=>(bN k x).d) (m.map (Ar.d (bN k))))]
   (.d (.t [paD q0 (nI (ac0 k n m bg fin w k0 q0)) (bN k w),.s 1 (LK .i64 (aba m (ac0 k n m bg fin w k0 q0))),vI 0]),none):=by
 obtain⟨w',k',q',e1,ow,gw,hall,hcase⟩:=acE h hn n0 li lf wi wf hm;rw[hb]at e1
 injection e1 with e1 e2
 injection e2 with e2 e3
 subst e1 e2 e3;have c1:=La (ps:=[]) (sy:=2) (st:=n) h (Ya h hn n0 li lf wi wf hm hml);rw[hid]at c1;have c2:=abQ h hn n0 2 (bg.map fun x=>(bN k x).d) wf lf hm;have c3:=alR h hn n0 li lf wi wf hm w k0 q0 hb;have c4:=(af_ h ae ow).1;have hz:=adH h gw;unfold ac0;cases hi:zx k [] w with
 | true =>
  rw[hi]at c4;have:=aif k [] 2 n _ _ _ _ _ _ _ n (bN k w) k0 q0 c1 c2 c3 c4;simpa[aba,LK,nI] using this
 | false =>
  rw[hi]at c4;rw[if_neg aC];rcases hcase with ⟨hw0,_⟩|⟨wz,hk0,hq0,hw0,_⟩
  ·rw[hz.2 hw0]at hi;cases hi
  have ov:∀ j q,Og k j ((abx k n m fin j).getD q (bG k [])):=fun j q=>zK (Og.zero h j) (wC h wf hm j) q
  have lv:∀ j,(abx k n m fin j).length=n:=Ld lf m;have pf:∀ x ∈ fin,Ba (dG k []) x:=fun x hx=>(wf x hx).gd
  refine aih (e:=bN k) k [] 2 n _ _ _ bg _ m (by have:=hm.1;omega) (abx k n m fin) _ n (bG k []) w k0 q0 ae (bg.getD q0 (bG k [])) (getD_at ae) (eqW k) bF (anz k n m bg fin k0) c1 c2 c3 c4 ?_ ?_ ?_ ?_
  ·intro j so st ⟨_,g2,_⟩;have:j<n:=ae;simp[this]
  ·intro j so st ⟨g1,g2,g3,g4⟩;rw[hb]at g4;obtain⟨i,a,f1,f2,f3,f4,_⟩:=agl (n:=n) (fin:=fin) (X3 h) (fun hx hy=>xZ h hx hy) hm.pa hm.ins pf (eq:=eqW k) (fun hx hy=>aff h hx hy) gw wz j so st g1 g3.gd (by rw[acD h wf hm];exact g4);have hLV:(fun j q=>aaG (bT (dG k [])) bF (bG k []) n m fin j q)=fun j q=>(abx k n m fin j).getD q (bG k []):=by
    funext j q
    exact acD h wf hm j q
   rw[show aaG (bT (dG k [])) bF (bG k []) n m fin=fun j q=>(abx k n m fin j).getD q (bG k []) from hLV]at f1;rw[acD h wf hm]at f4;have ha:=Qa2 f2;obtain⟨wa,⟨_,_⟩,t1,t2⟩:=hm.2 a ha;refine⟨i,a,f1,f2,t1,ae,ae,?_,?_⟩
   ·rw[show k0-j=(k0-(j+1))+1 by omega];exact Og.times h g3 ((Og.wt h wa).mono (Qr1 _))
   ·rw[hb];exact f4
  ·intro j so st ⟨g1,g2,g3,g4⟩ b NM;obtain⟨wb,⟨b1,_⟩,b2,b3⟩:=hm.2 b NM;have gx:=Og.times h g3 ((Og.wt h wb).mono (Qr1 _));have gx3:Og k 3 (bF so b.x):=gx.mono ae;have gv:Og k 3 ((abx k n m fin j).getD b.t.toNat (bG k [])):=(ov j _).mono ae;refine⟨⟨b1,b2,by rw[lv];omega⟩,(Lc h ae g3 ((Og.wt h wb).mono (Qr1 _))).1,(Lc h ae gx3 gv).1,(adW h ae ae (Og.times h gx3 gv) ow).1⟩
  ·refine⟨hq0,Qd2 _,?_,?_⟩
   ·rw[Xi0];exact zK (Og.zero h 0) (fun x hx=>Og.wt h (wi x hx)) q0
   ·rw[hb];exact hw0.symm
end ak3
end Fi.S
noncomputable section
namespace Fi.S
open Go Fi
set_option maxHeartbeats 8000000
set_option maxRecDepth 10000
def abh:List Int->List Int->Int
 | x::r,y::s=>if x<y then -1 else if y<x then 1 else abh r s
 | _,_=>0
theorem ad5:∀ l:List Int,abh l l=0
 | []=>rfl
 | x::l=>by rw[abh,if_neg ae,if_neg ae];exact ad5 l
def af':aF:=f1090.body.r.r.l.r.bl.lp
def adn (a b:List D)(j:Nat)(t:FV):St:=(st0 [.d (.s 1 a),.d (.s 1 b),.u,dI j,.u,.u,t,.u,.u] [])
def af1 (x:Int):St:=(st0 (.u::.u::dI x::uV) [])
theorem ag6 (a b:List Int)(j:Nat)(x y:Int)(hx:a[j]?=some x)(hy:b[j]?=some y)(hn:a.length<=1000000) :
  Ex E1 af' (adn (LK .i64 a) (LK .i64 b) j .u) (if x<y then(.ret,af1 (-1)) else if y<x then(.ret,af1 1) else(.norm,adn (LK .i64 a) (LK .i64 b) (j+1) .u)):=by
 have e1:(LK .i64 a)[j]?=some (vI x):=by simp[LK,hx]
 have e2:(LK .i64 b)[j]?=some (vI y):=by simp[LK,hy]
 have hja:j<a.length:=(aT hx)
 have hla:(LK .i64 a).length=a.length:=by simp[LK]
 have hj0:(0:Int)<=(j:Int):=ae;have hjl:(j:Int)<((LK .i64 a).length:Int):=ae;have aW:ak .i64 ((j:Int)+1)=(j:Int)+1:=wrap_i64 ae;have hk1:((j+1:Nat):Int)=(j:Int)+1:=ae;generalize LK .i64 a=as',LK .i64 b=bs at*;have i1:=idx e1;have i2:=idx e2;have q1:j<as'.length:=(aT e1)
 have q2:j<bs.length:=(aT e2)
 refine Ex.of (n:=100) ?_;unfold adn af1;rw[hk1]
 by_cases h1:x<y
 ·rw[if_pos h1];simp[af',f1090,hj0,hjl,e1,e2,i1,i2,q1,q2,h1]
 ·rw[if_neg h1]
  by_cases h2:y<x
  ·have h3:x > y:=h2;rw[if_pos h2];simp[af',f1090,hj0,hjl,e1,e2,i1,i2,q1,q2,h1,h2,h3]
  ·have h3:¬ x > y:=h2;rw[if_neg h2];simp[af',f1090,hj0,hjl,aW,e1,e2,i1,i2,q1,q2,h1,h2,h3]
theorem aiH (a b:List D):Ex E1 af' (adn a b a.length .u) (.exit 0,adn a b a.length (dB false)):=by
 apply e6;unfold adn;simp[af',f1090]
theorem af2 (a b:List Int)(hn:a.length<=1000000)(hl:a.length=b.length):∀ (d j:Nat),j+d=a.length ->
  ∃ r,Ex E1 (.loop af') (adn (LK .i64 a) (LK .i64 b) j .u) r/\((abh (a.drop j) (b.drop j)=0/\r=(.exit 0,adn (LK .i64 a) (LK .i64 b) a.length (dB false)))\/r=(.ret,af1 (abh (a.drop j) (b.drop j))))
 | 0,j,hj=>by
  obtain rfl:j=a.length:=ae;have hla:(LK .i64 a).length=a.length:=by simp[LK]
  have h:=aiH (LK .i64 a) (LK .i64 b);rw[hla]at h;exact⟨_,Ex.leave h aC,.inl ⟨by rw[Qv1,hl,Qv1];rfl,rfl⟩⟩
 | d+1,j,hj=>by
  have hja:j<a.length:=ae;have hjb:j<b.length:=ae;have h:=ag6 a b j a[j] b[j] (Qa1 hja) (Qa1 hjb) hn;rw[Qj2 hja,Qj2 hjb,abh];split at h
  ·rename_i h1;rw[if_pos h1];exact⟨_,Ex.leave h aC,.inr rfl⟩
  ·rename_i h1;rw[if_neg h1];split at h
   ·rename_i h2;rw[if_pos h2];exact⟨_,Ex.leave h aC,.inr rfl⟩
   ·rename_i h2;rw[if_neg h2];obtain⟨r,k1,k2⟩:=af2 a b hn hl d (j+1) ae;exact⟨r,h.next k1,k2⟩
theorem af3 (a b:List Int)(hn:a.length<=1000000)(hl:a.length=b.length):Ca E1 1090 [.d (.s 1 (LK .i64 a)),.d (.s 1 (LK .i64 b))] (dI (abh a b),none):=by
 obtain⟨r,h1,h2⟩:=af2 a b hn hl a.length 0 ae;rw[Xv2,Xv2]at h2;have hla:(LK .i64 a).length=a.length:=by simp[LK]
 have hlb:(LK .i64 b).length=a.length:=by simp[LK,hl]
 have sA:Ex E1 f1090.body.l (st0 (.d (.s 1 (LK .i64 a))::.d (.s 1 (LK .i64 b))::rX) []) (.norm,(st0 (.d (.s 1 (LK .i64 a))::.d (.s 1 (LK .i64 b))::rX) [])):=by
  apply e6;clear h1;simp[f1090]
 have sB := nx sA f1090.body.r.l (st0 (.d (.s 1 (LK .i64 a))::.d (.s 1 (LK .i64 b))::.u::.u::dB false::wW) []) (by
  apply e6;clear h1;simp[f1090,hla,hlb])
 have sC := nx sB f1090.body.r.r.l.l (adn (LK .i64 a) (LK .i64 b) 0 .u) (by
  apply e6;clear h1;unfold adn;rw[show((0:Nat):Int)=0 from rfl];simp[f1090])
 rcases h2 with ⟨h2,rfl⟩|rfl
 ·have sD:Ex E1 f1090.body.r.r.r (adn (LK .i64 a) (LK .i64 b) a.length (dB false)) (.ret,af1 0):=by
   apply e6;clear h1;unfold adn af1;simp[f1090]
  rw[h2];exact Ca.body (o:=.ret) rfl (k1090:E1.fn _=_) rfl (sA.seq (sB.seq ((Ex.seq sC (Ex.block h1)).seq sD))) aC (by unfold af1;simp[finish,show f1090.res=[.var 2] from rfl,show f1090.ref=false from rfl])
 ·exact Ca.body (o:=.ret) rfl (k1090:E1.fn _=_) rfl (sA.seq (sB.seq (Ex.gp (Ex.seq sC (Ex.dR h1))))) aC (by unfold af1;simp[finish,show f1090.res=[.var 2] from rfl,show f1090.ref=false from rfl])
theorem aiL (a:List Int)(hn:a.length<=1000000):Ca E1 1730 [.d (.s 1 (LK .i64 a)),.d (.s 1 (LK .i64 a))] (dB true,none):=by
 obtain⟨N,t⟩:=(af3 a a hn rfl).get;rw[ad5]at t;refine Ca.bQ (n:=N+60) ?_;rw[aA rfl (aO 1730 f1730:E1.fn _=_) rfl];simp[f1730,t]
end Fi.S
noncomputable section
namespace Fi.S
open Go Fi
set_option maxHeartbeats 8000000
set_option maxRecDepth 10000
variable {α:Type} {e:α->W}
def acv:aF:=f1702.body.r.r.r.r.r.r.r.r.r.r.l.r.bl.lp
def aaH (word:List D)(v13 lab v17 v20 v21 v22:FV)(i:Nat)(L:List ah):St :=
 (st0 [.u,.u,.u,.u,rL 1,rL 2,.d (.s 1 word),.u,.u,.u,.u,.u,rL 3,v13,rL 4,lab,dI i,v17,.u,.u,v20,v21,v22,.u] L)
abbrev fvI (x:Int):FV:=dI x
abbrev fvB (b:Bool):FV:=dB b
def aam (start:Nat)(is:List Int)(w:W):ah:=.box (dI start::.d (.s 1 (LK .i64 is))::w.d.cells.map .d)
theorem af4 (word:List D)(at_ lab:FV)(start:Nat)(is:List Int)(w:W)(i:Nat)(hi:i<=is.length)(L:List ah)(h2:L[2]?=some (aam start is w)) :
  Ex E1 acv.l (aaH word at_ lab .u .u .u .u i L) (if i<is.length then .norm else .exit 0,aaH word at_ lab .u (fvB (decide (i<is.length))) .u .u i L):=by
 obtain⟨vs,Hz,HV,vc,vb,vu,vp,vq,ew⟩:=w.aH;have l2:2<L.length:=(aT h2)
 unfold aam at h2;rw[ew]at h2;unfold wD at h2;simp only[D.cells,Qe2,Qc2]at h2;have i2:=idx h2;have hl:(LK .i64 is).length=is.length:=by simp[LK]
 generalize is.length=c at*;apply e6;unfold aaH fvB;clear ew
 by_cases h:i<c
 ·have h3:(i:Int)<(c:Int):=ae;rw[if_pos h,show decide (i<c)=true by simpa using h];simp[acv,f1702,h2,i2,l2,hl,h3]
 ·have h3:¬ (i:Int)<(c:Int):=ae;rw[if_neg h,show decide (i<c)=false by simpa using h];simp[acv,f1702,h2,i2,l2,hl,h3]
theorem aj4 (word:List D)(lab:FV)(kk:Int)(ps:List Int)(sy st:Int)(bg fin:List D)(aJ:List (Ar α))(start:Nat)(is:List Int)(w:W)(i x:Nat)(hx:is[i]?=some (x:Int))(a:Ar α)(ha:aJ[x]?=some a)(L:List ah)(h1:L[1]?=some (bu kk ps sy st bg fin (aJ.map (Ar.d e))))(h2:L[2]?=some (aam start is w)) :
  Ex E1 acv.r.l.bl.l (aaH word (fvI a.f) lab .u (fvB true) .u .u i L) (.norm,aaH word .u lab .u .u (fvB false) .u i L):=by
 obtain⟨vs,Hz,HV,vc,vb,vu,vp,vq,ew⟩:=w.aH;have l2:2<L.length:=(aT h2)
 have l1:1<L.length:=ae;unfold aam at h2;rw[ew]at h2;unfold wD at h2;unfold bu at h1;simp only[D.cells,Qe2,Qc2]at h2;have e1:(LK .i64 is)[i]?=some (vI x):=by simp[LK,hx]
 have e2:(aJ.map (Ar.d e))[x]?=some (a.d e):=by simp[ha]
 have hel:(aJ.map (Ar.d e)).length=aJ.length:=aC;have hxl:x<aJ.length:=(aT ha)
 obtain⟨s,k1,k3,c,b,u',q,ps',_,ed⟩:=a.iA e;rw[ed]at e2;unfold rV at e2;generalize LK .i64 is=ys,aJ.map (Ar.d e)=es at*;have i1:=idx h1;have i2:=idx h2;have j1:=idx e1;have j2:=idx e2;have q1:i<ys.length:=(aT e1)
 have q2:x<es.length:=(aT e2)
 have ii:(0:Int)<=(i:Int):=ae;have xx:(0:Int)<=(x:Int):=ae;have xn:¬ ((x:Int)<0):=ae;have xg:¬ ((x:Int) ≥ (es.length:Int)):=ae;have xg2:¬ ((es.length:Int)<=(x:Int)):=ae;have xg3:¬ (es.length<=x):=ae;refine Ex.of (n:=100) ?_;unfold aaH fvI fvB;clear ew ed;simp (maxSteps:=400000) [acv,f1702,h1,h2,i1,i2,l1,l2,e1,e2,j1,j2,q1,q2,ii,xx,xn,xg,xg2,xg3]
theorem ano (word:List D)(lab:FV)(kk:Int)(ps:List Int)(sy st:Int)(bg fin:List D)(aJ:List (Ar α))(start:Nat)(is:List Int)(w:W)(i x:Nat)(hx:is[i]?=some (x:Int))(a:Ar α)(ha:aJ[x]?=some a)(L:List ah)(h1:L[1]?=some (bu kk ps sy st bg fin (aJ.map (Ar.d e))))(h2:L[2]?=some (aam start is w)) :
  Ex E1 acv.r.l.bl.r.l (aaH word .u lab .u .u (fvB false) .u i L) (.norm,aaH word .u lab (rL L.length) .u .u .u i (L++[acJ e a])):=by
 obtain⟨vs,Hz,HV,vc,vb,vu,vp,vq,ew⟩:=w.aH;have l2:2<L.length:=(aT h2)
 have l1:1<L.length:=ae;unfold aam at h2;rw[ew]at h2;unfold wD at h2;unfold bu at h1;simp only[D.cells,Qe2,Qc2]at h2;have e1:(LK .i64 is)[i]?=some (vI x):=by simp[LK,hx]
 have e2:(aJ.map (Ar.d e))[x]?=some (a.d e):=by simp[ha]
 obtain⟨s,k1,k3,c,b,u',q,ps',_,ed⟩:=a.iA e;unfold acJ;rw[ed]at e2 ⊢;unfold rV at*;simp only[D.cells,Qe2,Qc2];generalize LK .i64 is=ys,aJ.map (Ar.d e)=es at*;have i1:=idx h1;have i2:=idx h2;have j1:=idx e1;have j2:=idx e2;have q1:i<ys.length:=(aT e1)
 have q2:x<es.length:=(aT e2)
 have ii:(0:Int)<=(i:Int):=ae;have xx:(0:Int)<=(x:Int):=ae;have sA:∀ b b':ah,(L++[b]).set L.length b'=L++[b']:=fun b b'=>by simp
 have hg:∀ b:ah,(L++[b])[L.length]?=some b:=fun b=>by simp
 refine Ex.of (n:=100) ?_;unfold aaH fvB;clear ew ed;simp (maxSteps:=400000) [acv,f1702,h1,h2,i1,i2,l1,l2,e1,e2,j1,j2,q1,q2,ii,xx,sA,hg]
theorem alS (word:List D)(lab:FV)(xb:Nat)(kk:Int)(ps:List Int)(sy st:Int)(bg fin es:List D)(i:Nat)(a:Ar α)(so p:α)(L:List ah)(h1:L[1]?=some (bu kk ps sy st bg fin es))(h4:L[4]?=some (Ik (e so)))(hx:L[xb]?=some (acJ e a))(x5:5<=xb)
  (c1:Ca E1 21 [.d (aU kk ps),.d (e so).d,.d (e a.x).d] (.d (e p).d,none)) :
  Ex E1 acv.r.l.bl.r.r.l (aaH word .u lab (rL xb) .u .u .u i L) (.norm,aaH word (fvI a.t) lab (rL xb) .u .u .u i (L.set 4 (Ik (e p)))):=by
 obtain⟨N,t⟩:=c1.get;have l1:1<L.length:=(aT h1)
 have l4:4<L.length:=(aT h4)
 have lx:xb<L.length:=(aT hx)
 obtain⟨vs,Hz,HV,vc,vb,vu,vp,vq,eso⟩:=(e so).aH;obtain⟨zs,wS,wT,zc,zb,zu,zp,zq,ep⟩:=(e p).aH;obtain⟨s,k1,k3,c,b,u',q,ps',ew,ed⟩:=a.iA e;unfold acJ at hx;unfold Ik at*;rw[ed]at hx;rw[eso]at h4 t;rw[ew,ep]at t;rw[ep];unfold bu aU wD rV at*;simp only[D.cells,Qe2,Qc2]at*;have i1:=idx h1;have i4:=idx h4;have ix:=idx hx;refine Ex.of (n:=N+100) ?_;unfold aaH fvI;clear ew ed c1 eso ep;simp[acv,f1702,t,h1,i1,l1,h4,i4,l4,hx,ix,lx]
theorem aj5 (word:List D)(v13 lab:FV)(xb i:Nat)(xs:List Int)(hxs:xs.length<=1000)(a:Ar α)(ha0:0<=a.l)(L:List ah)(hL:6<=L.length)(hx:L[xb]?=some (acJ e a))(hr:aa3 L lab xs) :
  ∃ lab' v17 v22 L',Ex E1 acv.r.l.bl.r.r.r (aaH word v13 lab (rL xb) .u .u .u i L) (.norm,aaH word v13 lab' v17 .u .u v22 i L')/\aa3 L' lab' (if a.l=0 then xs else xs++[a.l])/\L.length<=L'.length /\
   (∀ j,j<6->L'[j]?=L[j]?):=by
 have lx:xb<L.length:=(aT hx)
 have m1:(xs.length+1)*8<=most:=by unfold most;omega
 have m2:xs.length+1<=most:=by unfold most;omega
 have hlk:(LK .i64 xs).length=xs.length:=by simp[LK]
 obtain⟨s,k1,k3,c,b,u',q,ps',ew,ed⟩:=a.iA e;unfold acJ at hx;rw[ed]at hx;unfold rV at hx;simp only[D.cells,Qe2,Qc2]at hx;generalize a.l=l at*;have ix:=idx hx;clear ew ed
 by_cases h0:l=0
 ·rw[if_pos h0];subst h0;refine⟨lab,rL xb,fvB false,L,Ex.of (n:=100) ?_,hr,Qd2 _,fun _ _=>rfl⟩;unfold aaH fvB;simp[acv,f1702,hx,ix,lx]
 ·rw[if_neg h0];have hb:(0:Int)<l:=ae;have hb2:l > 0:=ae;rcases hr with ⟨rfl,rfl⟩|⟨r,av,h6,rfl,hr⟩
  ·refine⟨.ls (.loc L.length) 0 1 0 1,.u,.u,L++[.row 0 1 [vI l]],Ex.of (n:=100) ?_,.inr ⟨L.length,0,hL,rfl,by simp[LK]⟩,aC,fun j hj => ?_⟩
   ·unfold aaH;simp[acv,f1702,hx,ix,lx,hb,hb2,most]
   ·rw[Qa0 ae]
  ·have lr:r<L.length:=(aT hr)
   have tk:(LK .i64 xs).take xs.length=LK .i64 xs:=by rw[<-hlk,Qk0]
   refine⟨.ls (.loc r) (av+1) 1 0 (xs.length+1),.u,.u,L.set r (.row (av+1) 1 (LK .i64 xs++[vI l])),Ex.of (n:=100) ?_,.inr ⟨r,av+1,h6,aC,?_⟩,aC,fun j hj => ?_⟩
   ·unfold aaH;have ir:=idx hr;simp[acv,f1702,hx,ix,lx,hb,hb2,hr,ir,lr,tk,hlk,m1,m2,ah.view]
   ·rw[Qd1 lr,adL]
   ·rw[Qb2 ae]
theorem aj6 (word:List D)(v13 lab v17 v22:FV)(i:Nat)(hi:i<=1000000)(L:List ah):Ex E1 acv.r.r (aaH word v13 lab v17 .u .u v22 i L) (.norm,aaH word v13 lab .u .u .u .u (i+1) L):=by
 have aW:ak .i64 ((i:Int)+1)=(i:Int)+1:=wrap_i64 ae;have hk1:((i+1:Nat):Int)=(i:Int)+1:=ae;apply e6;unfold aaH;rw[hk1];simp[acv,f1702,aW]
theorem af5 (word:List D)(kk:Int)(ps:List Int)(sy st0:Int)(bg fin:List D)(aJ:List (Ar α))(hp:∀ a ∈ aJ,0<=a.f/\0<=a.l/\0<=a.t)(start:Nat)(is:List Nat)(w:W)(tm:α->α->α)(Qs:Nat->α->Prop)
  (hQ:∀ r so,Qs (r+1) so->∀ a ∈ aJ,Ca E1 21 [.d (aU kk ps),.d (e so).d,.d (e a.x).d] (.d (e (tm so a.x)).d,none)/\Qs r (tm so a.x)) (hlen:is.length<=900) (mb bb:ah) :
  ∀ (rest done:List Nat) (so:α) (s t:Nat) (lab:FV) (N7:List Int) (L:List ah),done++rest=is->Chn aJ s rest t->Qs rest.length so->N7.length<=done.length->5<=L.length->L[0]?=some mb->L[1]?=some (bu kk ps sy st0 bg fin (aJ.map (Ar.d e)))->L[2]?=some (aam start (nI is) w)->L[3]?=some bb->L[4]?=some (Ik (e so))->aa3 L lab N7 ->
   ∃ lab' L',Ex E1 (.loop acv) (aaH word (fvI s) lab .u .u .u .u done.length L) (.exit 0,aaH word (fvI t) lab' .u (fvB false) .u .u is.length L')/\L'[1]?=some (bu kk ps sy st0 bg fin (aJ.map (Ar.d e)))/\L'[2]?=some (aam start (nI is) w)/\L'[3]?=some bb/\L'[4]?=some (Ik (e (awF tm aJ so rest)))/\aa3 L' lab' (N7++aba aJ rest)
 | [],done,so,s,t,lab,N7,L,hd,hc,_,_,_,_,h1,h2,h3,h4,hr=>by
  cases hc;rw[Q10]at hd;subst hd;have h:=af4 word (fvI s) lab start (nI done) w done.length aC L h2;have hl:(nI done).length=done.length:=aC;rw[hl,if_neg ae,show decide (done.length<done.length)=false by simp]at h;exact⟨lab,L,Ex.leave (acn h) aC,h1,h2,h3,h4,by simpa[aba] using hr⟩
 | x::rest,done,so,s,t,lab,N7,L,hd,hc,hq,hlb,hL,h0,h1,h2,h3,h4,hr=>by
  cases hc with
  | @cons _ _ _ _ a hax hf hg =>
   have ham:=Qa2 hax;obtain⟨f0,l0,t0⟩:=hp a ham;obtain⟨c1,q1⟩:=hQ rest.length so hq a ham;have hil:done.length<is.length:=by rw[<-hd];simp
   have hnl:(nI is).length=is.length:=aC;have hxi:(nI is)[done.length]?=some (x:Int):=by rw[<-hd];simp
   have hfs:(s:Int)=a.f:=ae;have r1:=af4 word (fvI s) lab start (nI is) w done.length ae L h2;rw[hnl,if_pos hil,show decide (done.length<is.length)=true by simpa using hil,hfs]at r1;have r2:=aj4 (e:=e) word lab kk ps sy st0 bg fin aJ start (nI is) w done.length x hxi a hax L h1 h2;have r3:=ano (e:=e) word lab kk ps sy st0 bg fin aJ start (nI is) w done.length x hxi a hax L h1 h2;obtain⟨L2,hL2⟩:∃ L2,L2=L++[acJ e a]:=⟨_,rfl⟩
   rw[<-hL2]at r3;have n2:L2.length=L.length+1:=by rw[hL2];simp
   have g2:∀ {j o},L[j]?=some o->L2[j]?=some o:=fun {j o} hj=>by
    have:=(aT hj)
    rw[hL2,Qa0 this];exact hj
   have x2:L2[L.length]?=some (acJ e a):=by rw[hL2];simp
   have r4:=alS (e:=e) word lab L.length kk ps sy st0 bg fin (aJ.map (Ar.d e)) done.length a so (tm so a.x) L2 (g2 h1) (g2 h4) x2 ae c1;obtain⟨L3,hL3⟩:∃ L3,L3=L2.set 4 (Ik (e (tm so a.x))):=⟨_,rfl⟩
   rw[<-hL3]at r4;have n3:L3.length=L.length+1:=by rw[hL3];simp[n2]
   have g3:∀ {j o},j≠4->L2[j]?=some o->L3[j]?=some o:=fun {j o} h4 hj=>by
    rw[hL3,Qb2 ae];exact hj
   have rr:aa3 L3 lab N7:=hr.keep fun j av n hv=>by
    obtain⟨h6,hl⟩:=hr.lt hv;rw[g3 ae (g2 (Qa1 hl)),Qa1 hl]
   obtain⟨lab',v17,v22,L4,r5,rr4,n4,k4⟩:=aj5 (e:=e) word (fvI a.t) lab L.length done.length N7 (by rw[<-hd]at hlen;simp at hlen;omega) a l0 L3 ae (g3 ae x2) rr;have r6:=aj6 word (fvI a.t) lab' v17 v22 done.length ae L4;have ht:(a.t.toNat:Int)=a.t:=ae;have g4:∀ {j o},j<6->L3[j]?=some o->L4[j]?=some o:=fun {j o} hj h=>by rw[k4 j hj];exact h
   obtain⟨aoB,L5,s1,s2,s3,s4,s5,s6⟩:=af5 word kk ps sy st0 bg fin aJ hp start is w tm Qs hQ hlen mb bb rest (done++[x]) (tm so a.x) a.t.toNat t lab' (if a.l=0 then N7 else N7++[a.l]) L4 (by rw[<-hd];simp) hg q1 (by split<;>simp<;>omega) ae
    (g4 ae (g3 ae (g2 h0))) (g4 ae (g3 ae (g2 h1))) (g4 ae (g3 ae (g2 h2))) (g4 ae (g3 ae (g2 h3))) (g4 ae (by rw[hL3,Qd1 ae])) rr4
   rw[ht,show(done++[x]).length=done.length+1 by simp]at s1;have e1:awF tm aJ so (x::rest)=awF tm aJ (tm so a.x) rest:=by rw[awF,hax]
   have e2:N7++aba aJ (x::rest)=(if a.l=0 then N7 else N7++[a.l])++aba aJ rest:=by
    rw[aba,hax];simp only;split<;>simp
   rw[e1,e2,hfs];exact⟨aoB,L5,(r1.seq ((Ex.eZ (r2.seq (r3.seq (r4.seq r5)))).seq r6)).next s1,s2,s3,s4,s5,s6⟩
theorem ahc (aw:Ca E1 1706 [] (dB true,none))(word:List Int)(kk sy:Int)(n:Nat)(bg:List D)(fin:List α)(es:List D)(start t:Nat)(is:List Nat)(w:W)(c:Nat)(lab:FV)(so ft:α)(hft:fin[t]?=some ft)(u:W)(iz:Bool)(hz:iz=true->is=[]/\start=0/\word=[])(L:List ah)
  (h1:L[1]?=some (bu kk [] sy n bg (fin.map fun x=>(e x).d) es)) (h2:L[2]?=some (aam start (nI is) w)) (h3:L[3]?=some (Ik w)) (h4:L[4]?=some (Ik (e so))) (hr:aa3 L lab word)
  (c1:Ca E1 1126 [.d (aU kk []),.d w.d] (dB iz,none)) (c2:Ca E1 21 [.d (aU kk []),.d (e so).d,.d (e ft).d] (.d u.d,none)) (c3:iz=false->Ca E1 12 [.d u.d,.d w.d] (dB true,none)) (c4:Ca E1 1730 [.d (.s 1 (LK .i64 word)),.d (.s 1 (LK .i64 word))] (dB true,none)) :
  ∃ st',Ex E1 f1702.body.r.r.r.r.r.r.r.r.r.r.r (aaH (LK .i64 word) (fvI t) lab .u (fvB false) .u .u c L) (.ret,st')/\finish f1702 st'=some (dB true,none):=by
 obtain⟨N0,t0⟩:=aw.any;obtain⟨N1,t1⟩:=c1.any;obtain⟨N2,t2⟩:=c2.any;obtain⟨N4,t4⟩:=c4.any;have l1:1<L.length:=(aT h1)
 have l2:2<L.length:=(aT h2)
 have l3:3<L.length:=(aT h3)
 have l4:4<L.length:=(aT h4)
 have e1:(fin.map fun x=>(e x).d)[t]?=some (e ft).d:=by simp[hft]
 generalize (fin.map fun x=>(e x).d)=fs at*;obtain⟨vs,Hz,HV,vc,vb,vu,vp,vq,ew⟩:=w.aH;obtain⟨zs,wS,wT,zc,zb,zu,zp,zq,eso⟩:=(e so).aH;obtain⟨rs,rl1,rl2,rc,rb,ru,rp,rq,eft⟩:=(e ft).aH;obtain⟨us,ul1,ul2,uc,ub,uu,up,uq,eu⟩:=u.aH;have e0:LK .i64 []=[]:=rfl;unfold aam at h2;unfold Ik at h3 h4;rw[ew]at h2 h3 t1 c3;rw[eso]at h4 t2;rw[eft]at e1 t2;rw[eu]at t2 c3;unfold bu at h1;unfold aU wD at*;simp only[e0]at h1 t1 t2;simp only[D.cells,Qe2,Qc2]at h2 h3 h4;have i1:=idx h1;have i2:=idx h2;have i3:=idx h3;have i4:=idx h4;have j1:=idx e1;have q1:t<fs.length:=(aT e1)
 have tt:(0:Int)<=(t:Int):=ae;clear ew eso eft eu hft c1 c2 c4 aw;unfold aaH fvI fvB;cases iz with
 | true =>
  obtain⟨rfl,rfl,rfl⟩:=hz rfl;clear t4 hr c3;obtain⟨K,hK⟩:∃ K,K=N0+N1:=⟨_,rfl⟩
  replace t0:=t0 K ae;replace t1:=t1 K ae;simp only[Qc2,e0]at h2 i2;refine⟨_,Ex.of (n:=K+100) (by
   simp[f1702,t0,t1,h1,h2,h3,h4,i1,i2,i3,i4,l1,l2,l3,l4,e0];rfl),?_⟩
  simp[finish,show f1702.res=[.var 3] from rfl,show f1702.ref=false from rfl]
 | false =>
  obtain⟨N3,t3⟩:=(c3 rfl).any;obtain⟨K,hK⟩:∃ K,K=N0+N1+N2+N3+N4:=⟨_,rfl⟩
  replace t0:=t0 K ae;replace t1:=t1 K ae;replace t2:=t2 K ae;replace t3:=t3 K ae;replace t4:=t4 K ae;clear hz c3;rcases hr with ⟨rfl,rfl⟩|⟨r,av,h6,rfl,hr⟩
  ·simp only[e0]at t4;refine⟨_,Ex.of (n:=K+100) (by
    simp[f1702,t0,t1,t2,t3,t4,h1,h2,h3,h4,i1,i2,i3,i4,l1,l2,l3,l4,e1,j1,q1,tt,e0];rfl),?_⟩
   simp[finish,show f1702.res=[.var 3] from rfl,show f1702.ref=false from rfl]
  ·have lr:r<L.length:=(aT hr)
   have ir:=idx hr;have hlk:(LK .i64 word).length=word.length:=by simp[LK]
   have tk:(LK .i64 word).take word.length=LK .i64 word:=by rw[<-hlk,Qk0]
   refine⟨_,Ex.of (n:=K+100) (by
    simp[f1702,t0,t1,t2,t3,t4,h1,h2,h3,h4,i1,i2,i3,i4,l1,l2,l3,l4,e1,j1,q1,tt,hr,ir,lr,tk,hlk,ah.view];rfl),?_⟩
   simp[finish,show f1702.res=[.var 3] from rfl,show f1702.ref=false from rfl]
theorem aga (aw:Ca E1 1706 [] (dB true,none))(vi:Bool)(em:Bool)(st:Int)(li lf la:List Int)(kk:Int)(n:Nat)(hn:n<=64)(bg fin v x:List α)(aJ:List (Ar α))(hp:∀ a ∈ aJ,0<=a.f/\0<=a.l/\0<=a.t)(hv:v.length=n)(hx:x.length=n)(tm:α->α->α)(Qs:Nat->α->Prop)(w:α)(start t:Nat)(hst:start<n)(is:List Nat)(hlen:is.length<=900)(s0 ft:α)(hs0:bg[start]?=some s0)(hft:fin[t]?=some ft)(hc:Chn aJ start is t)(hq:Qs is.length s0)(iz:Bool)(hz:iz=true->is=[]/\start=0)
  (hQ:∀ r so,Qs (r+1) so->∀ a ∈ aJ,Ca E1 21 [.d (aU kk []),.d (e so).d,.d (e a.x).d] (.d (e (tm so a.x)).d,none)/\Qs r (tm so a.x))
  (h1:Ca E1 1707 [dB vi,.d (.a [vI st,.s 1 (LK .i64 li),.s 1 (LK .i64 lf),.s 1 (LK .i64 la),vB em])] (.d (jh kk [] 2 n (bg.map fun x=>(e x).d) (fin.map fun x=>(e x).d) (aJ.map (Ar.d e))),none))
  (h2:Ca E1 1717 [.d (jh kk [] 2 n (bg.map fun x=>(e x).d) (fin.map fun x=>(e x).d) (aJ.map (Ar.d e)))] (.d (.t [paD start (nI is) (e w),.s 1 (LK .i64 (aba aJ is)),vI 0]),none))
  (h3:Ca E1 1715 [.d (jh kk [] 2 n (bg.map fun x=>(e x).d) (fin.map fun x=>(e x).d) (aJ.map (Ar.d e)))] (.d (.t [.s 8 (v.map fun x=>(e x).d),vI 0]),none))
  (h4:Ca E1 1714 [.d (jh kk [] 2 n (bg.map fun x=>(e x).d) (fin.map fun x=>(e x).d) (aJ.map (Ar.d e)))] (.d (.t [.s 8 (x.map fun x=>(e x).d),vI 0]),none))
  (h5:Ca E1 1532 [.d (aU kk []),.d (.s 8 (bg.map fun x=>(e x).d)),.d (.s 8 (x.map fun x=>(e x).d))] (.d (e w).d,none))
  (h6:Ca E1 1532 [.d (aU kk []),.d (.s 8 (v.map fun x=>(e x).d)),.d (.s 8 (fin.map fun x=>(e x).d))] (.d (e w).d,none))
  (h7:Ca E1 12 [.d (e w).d,.d (e w).d] (dB true,none)) (h8:Ca E1 1126 [.d (aU kk []),.d (e w).d] (dB iz,none))
  (u:W) (h9:Ca E1 21 [.d (aU kk []),.d (e (awF tm aJ s0 is)).d,.d (e ft).d] (.d u.d,none)) (h10:iz=false->Ca E1 12 [.d u.d,.d (e w).d] (dB true,none))
  (h11:Ca E1 1730 [.d (.s 1 (LK .i64 (aba aJ is))),.d (.s 1 (LK .i64 (aba aJ is)))] (dB true,none)) :
  Ca E1 1702 [dB vi,.d (.a [vI st,.s 1 (LK .i64 li),.s 1 (LK .i64 lf),.s 1 (LK .i64 la),vB em])] (dB true,none):=by
 obtain⟨mb,hmb⟩:∃ mb,mb=ah.box [dI st,.d (.s 1 (LK .i64 li)),.d (.s 1 (LK .i64 lf)),.d (.s 1 (LK .i64 la)),dB em]:=⟨_,rfl⟩
 obtain⟨ab,hab⟩:∃ ab,ab=bu kk [] 2 n (bg.map fun x=>(e x).d) (fin.map fun x=>(e x).d) (aJ.map (Ar.d e)):=⟨_,rfl⟩
 obtain⟨pb,hpb⟩:∃ pb,pb=aam start (nI is) (e w):=⟨_,rfl⟩
 obtain⟨wb,hwb⟩:∃ wb,wb=Ik (e w):=⟨_,rfl⟩
 obtain⟨sb,hsb⟩:∃ sb,sb=Ik (e s0):=⟨_,rfl⟩
 obtain⟨word,hword⟩:∃ word,word=aba aJ is:=⟨_,rfl⟩
 obtain⟨lab,L,r1,g1,g2,g3,g4,g5⟩:=af5 (e:=e) (LK .i64 word) kk [] 2 n (bg.map fun x=>(e x).d) (fin.map fun x=>(e x).d) aJ hp start is (e w) tm Qs hQ hlen mb wb is [] s0 start t (.d (.n 1)) [] [mb,ab,pb,wb,sb] rfl hc hq aC aC rfl (by rw[hab];rfl) (by rw[hpb];rfl) rfl (by rw[hsb];rfl) (.inl ⟨rfl,rfl⟩);rw[Qv2,<-hword]at g5;rw[<-hword]at h2 h11;have hz':iz=true->is=[]/\start=0/\word=[]:=fun h=>by
  obtain⟨a1,a2⟩:=hz h;exact⟨a1,a2,by rw[hword,a1];rfl⟩
 obtain⟨sf,r2,r3⟩:=ahc (e:=e) aw word kk 2 n (bg.map fun x=>(e x).d) fin (aJ.map (Ar.d e)) start t is (e w) is.length lab (awF tm aJ s0 is) ft hft u iz hz' L g1 g2 (hwb ▸ g3) g4 g5 h8 h9 h10 h11;obtain⟨K,hK,t1,t2,t3,t4,t5,t6,t7⟩:=(h1.j (h2.j (h3.j (h4.j (h5.j (h6.j h7.any)))))).at 0;have hvl:(v.map fun x=>(e x).d).length=n:=by simpa using hv
 have hxl:(x.map fun x=>(e x).d).length=n:=by simpa using hx
 have es0:(bg.map fun x=>(e x).d)[start]?=some (e s0).d:=by simp[hs0]
 clear h1 h2 h3 h4 h5 h6 h7 h8 h9 h10 h11 hQ hc hq hK aw g1 g2 g3 g4 g5 hz hz' hs0 hft;have e0:LK .i64 []=[]:=rfl;generalize (bg.map fun x=>(e x).d)=ins,(fin.map fun x=>(e x).d)=fs,(v.map fun x=>(e x).d)=vs,(x.map fun x=>(e x).d)=xs,aJ.map (Ar.d e)=es,LK .i64 word=wd at*;have ajX:(0:Int)<=(start:Int):=ae;have aoC:(start:Int)<(n:Int):=ae;have n1:¬ ((start:Int)<0):=ae;have n2:¬ ((n:Int)<=(start:Int)):=ae;have n3:¬ (n<=start):=ae;obtain⟨ws,TC,TD,wc,wbb,wu,wp,wq,ew⟩:=(e w).aH;obtain⟨zs,wS,wT,zc,zb,zu,zp,zq,ez⟩:=(e s0).aH;obtain⟨ys,hys⟩:∃ ys,ys=LK .i64 (nI is):=⟨_,rfl⟩
 unfold paD at t2;unfold aam at hpb;unfold Ik at hwb hsb;rw[<-hys,ew]at t2 hpb;rw[ew]at hwb t5 t6 t7;rw[ez]at hsb es0;unfold bu at hab;unfold aU jh wD at*;simp only[e0]at t1 t2 t3 t4 t5 t6 hab;simp only[D.cells,Qe2,Qc2]at t2 hpb hwb hsb;have j1:=idx es0;have q1:start<ins.length:=(aT es0)
 clear ew ez hys;have sA:Ex E1 f1702.body.l (st0 (dB vi::.d (.a [vI st,.s 1 (LK .i64 li),.s 1 (LK .i64 lf),.s 1 (LK .i64 la),vB em])::amJ) [])
   (.norm,(st0 (dB vi::.u::rL 0::amI) [mb])):=by
  apply e6;clear t1 t2 t3 t4 t5 t6 t7 r1 r2 r3;rw[hmb];simp[f1702]
 have sB := nx sA f1702.body.r.l (st0 (.u::.u::.u::.u::rL 1::akE) [mb,ab]) (by
  refine Ex.of (n:=K+60) ?_;clear t2 t3 t4 t5 t6 t7 r1 r2 r3 sA;rw[hmb,hab];simp[f1702,t1])
 have sC := nx sB f1702.body.r.r.l (st0 (.u::.u::.u::.u::rL 1::rL 2::.d (.s 1 wd)::dI 0::Ze) [mb,ab,pb]) (by
  refine Ex.of (n:=K+60) ?_;clear t1 t3 t4 t5 t6 t7 r1 r2 r3 sA sB;rw[hab,hpb];simp[f1702,t2])
 have sD := nx sC f1702.body.r.r.r.l (st0 (.u::.u::.u::.u::rL 1::rL 2::.d (.s 1 wd)::dI 0::.d (.s 8 vs)::dI 0::Ma) [mb,ab,pb]) (by
  refine Ex.of (n:=K+60) ?_;clear t1 t2 t4 t5 t6 t7 r1 r2 r3 sA sB sC;rw[hab];simp[f1702,t3])
 have sE := nx sD f1702.body.r.r.r.r.l (st0 (.u::.u::.u::.u::rL 1::rL 2::.d (.s 1 wd)::dI 0::.d (.s 8 vs)::dI 0::.d (.s 8 xs)::dI 0::EY) [mb,ab,pb]) (by
  refine Ex.of (n:=K+60) ?_;clear t1 t2 t3 t5 t6 t7 r1 r2 r3 sA sB sC sD;rw[hab];simp[f1702,t4])
 have sF := nx sE f1702.body.r.r.r.r.r.l (st0 [.u,.u,.u,.u,rL 1,rL 2,.d (.s 1 wd),.u,.d (.s 8 vs),.u,.d (.s 8 xs),.u,.u,.u,.u,.u,.u,.u,dB false,.u,.u,.u,.u,.u] [mb,ab,pb]) (by
  refine Ex.of (n:=100) ?_;clear t1 t2 t3 t4 t5 t6 t7 r1 r2 r3 sA sB sC sD sE;rw[hab,hpb];simp (maxSteps:=400000) [f1702,hvl,hxl,ajX,aoC,n1,n2,n3])
 have sG := nx sF f1702.body.r.r.r.r.r.r.l (st0 (.u::.u::.u::.u::rL 1::rL 2::.d (.s 1 wd)::.u::.d (.s 8 vs)::.u::.u::.u::rL 3::GX) [mb,ab,pb,wb]) (by
  refine Ex.of (n:=K+60) ?_;clear t1 t2 t3 t4 t6 t7 r1 r2 r3 sA sB sC sD sE sF;rw[hab,hwb];simp[f1702,t5])
 have sH := nx sG f1702.body.r.r.r.r.r.r.r.l (st0 [.u,.u,.u,.u,rL 1,rL 2,.d (.s 1 wd),.u,.u,.u,.u,.u,rL 3,.u,.u,.u,.u,.u,.u,dB false,.u,.u,.u,.u] [mb,ab,pb,wb]) (by
  refine Ex.of (n:=K+100) ?_;clear t1 t2 t3 t4 t5 r1 r2 r3 sA sB sC sD sE sF sG;rw[hab,hwb,hpb];simp (maxSteps:=400000) [f1702,t6,t7])
 have sI := nx sH f1702.body.r.r.r.r.r.r.r.r.l (st0 (.u::.u::.u::.u::rL 1::rL 2::.d (.s 1 wd)::.u::.u::.u::.u::.u::rL 3::dI start::rL 4::OU) [mb,ab,pb,wb,sb]) (by
  apply e6;clear t1 t2 t3 t4 t5 t6 t7 r1 r2 r3 sA sB sC sD sE sF sG sH;rw[hab,hpb,hsb];simp[f1702,es0,j1,q1,ajX])
 have sJ := nx sI f1702.body.r.r.r.r.r.r.r.r.r.l (st0 (.u::.u::.u::.u::rL 1::rL 2::.d (.s 1 wd)::.u::.u::.u::.u::.u::rL 3::dI start::rL 4::.d (.n 1)::zW) [mb,ab,pb,wb,sb]) (by
  apply e6;clear t1 t2 t3 t4 t5 t6 t7 r1 r2 r3 sA sB sC sD sE sF sG sH sI;simp[f1702])
 have sK := nx sJ f1702.body.r.r.r.r.r.r.r.r.r.r.l.l (aaH wd (fvI start) (.d (.n 1)) .u .u .u .u 0 [mb,ab,pb,wb,sb]) (by
  apply e6;clear t1 t2 t3 t4 t5 t6 t7 r1 r2 r3 sA sB sC sD sE sF sG sH sI sJ;unfold aaH fvI;rw[show((0:Nat):Int)=0 from rfl];simp[f1702])
 exact Ca.body (o:=.ret) rfl (aO 1702 f1702:E1.fn _=_) rfl (sA.seq (sB.seq (sC.seq (sD.seq (sE.seq (sF.seq (sG.seq (sH.seq (sI.seq (sJ.seq ((Ex.seq sK (Ex.block r1)).seq r2))))))))))) aC r3
end Fi.S
noncomputable section
namespace Fi.S
open Go Fi
set_option maxHeartbeats 8000000
set_option maxRecDepth 10000
section
variable {α:Type} {tm:α->α->α} {l:List (Ar α)} {n:Nat}
theorem aiP (hin:∀ a ∈ l,a.f.toNat<n/\a.t.toNat<n){s t:Nat}{is:List Nat}(h:Chn l s is t):s<n->t<n:=by
 induction h with
 | nil=>exact fun h=>h
 | cons h hf g ih=>exact fun _=>ih (hin _ (Qa2 h)).2
theorem ai7 {Q:α->Prop}{pl:α->α->α}(hpl:∀ {x y},Q x->Q y->Q (pl x y)):∀ (l:List (α × α)) (acc:α),Q acc->(∀ p ∈ l,Q (tm p.1 p.2))->Q (l.foldl (fun acc p=>pl acc (tm p.1 p.2)) acc)
 | [],_,ha,_=>ha
 | p::l,acc,ha,h=>ai7 hpl l _ (hpl ha (h p aC)) fun q hq=>h q (by simp[hq])
end
section
variable {k:Int} (h:k=2\/k=3)
include h
theorem Og.plus {j:Nat}{x y:List Sv}(gx:Og k j x)(gy:Og k j y):Og k j (bT (dG k []) x y):=by
 rw[<-xZ h gy.gd gx.gd];split
 ·exact gy
 ·exact gx
theorem ai_ {j:Nat}(hj:j<=5){x y:List Sv}(gx:Og k j x)(gy:Og k j y):Ca E1 19 [.d (aU k []),.d (bN k x).d,.d (bN k y).d] (.d (bN k (bT (dG k []) x y)).d,none):=by
 have:Jh j<=158:=zJ hj;exact adT h ae gx gy
theorem ajb {n:Nat}(hn:n<=4){v w:List (List Sv)}(lv:v.length=n)(lw:w.length=n)(gv:∀ x ∈ v,Og k 3 x)(gw:∀ x ∈ w,Og k 3 x) :
  Ca E1 1532 [.d (aU k []),.d (.s 8 (v.map fun x=>(bN k x).d)),.d (.s 8 (w.map fun x=>(bN k x).d))] (.d (bN k (N8 (bT (dG k [])) bF (bG k []) v w)).d,none):=by
 refine alE (e:=bN k) k [] v w n ae lv lw (bT (dG k [])) bF (bG k []) (agp h) fun j x y hx hy => ?_
 have gx:=gv x (Qa2 hx);have gy:=gw y (Qa2 hy);refine⟨(Lc h ae gx gy).2,ai_ h (j:=4) ae ?_ (Og.times h gx gy)⟩;refine ai7 (Q:=Og k 4) (fun gx gy=>Og.plus h gx gy) _ _ (Og.zero h 4) fun p hp => ?_
 obtain⟨h1,h2⟩:=List.of_mem_zip hp;exact Og.times h (gv _ (Qn1 h1)) (gw _ (Qn1 h2))
theorem akA {l:List (Ar (List Sv))}(hl:∀ a ∈ l,Wt k [] a.x):∀ (is:List Nat) (j:Nat) (so:List Sv),Og k j so->Og k (j+is.length) (awF bF l so is)
 | [],j,so,g=>g
 | i::is,j,so,g=>by
  unfold awF;split
  ·rename_i a ha;have:=akA hl is (j+1) _ (Og.times h g ((Og.wt h (hl a (Qa2 ha))).mono (Qr1 _)));rw[Qf2,show j+(is.length+1)=j+1+is.length by omega];exact this
  ·exact g.mono ae
end
theorem ajc (vi em:Bool)(st:Int)(li lf la:List Int)(hli:∀ x ∈ li,ib x)(hlf:∀ x ∈ lf,ib x)(hla:∀ x ∈ la,ib x)(aw:Ca E1 1706 [] (dB true,none)) :
  Ca E1 1702 [dB vi,.d (.a [vI st,.s 1 (LK .i64 li),.s 1 (LK .i64 lf),.s 1 (LK .i64 la),vB em])] (dB true,none):=by
 obtain⟨k,hk⟩:∃ k:Int,k=if vi then 3 else 2:=⟨_,rfl⟩
 have h:k=2\/k=3:=by rw[hk];cases vi<;>simp
 obtain⟨n,bg,fin,m,hn,n0,l1,l2,w1,w2,hm,hml,hid,cm⟩:=Oe vi em st li lf la hli hlf hla k hk;have c1:=Qc h hn n0 l1 l2 w1 w2 hm hml;have c2:=II h hn n0 l1 l2 w1 w2 hm hml;rw[hid]at c1 c2;obtain⟨w,k0,q0,hb,ow,gw,hall,hcase⟩:=acE h hn n0 l1 l2 w1 w2 hm;have cb:=aeM h hn n0 l1 l2 w1 w2 hm hml hid w k0 q0 hb;have A:=(X3 h).gm;have p1:∀ x ∈ bg,Ba (dG k []) x:=fun x hx=>(w1 x hx).gd
 have p2:∀ x ∈ fin,Ba (dG k []) x:=fun x hx=>(w2 x hx).gd
 have d1:=ajQ (bt:=dV k) (X3 h) (fun hx hy=>xZ h hx hy) (fun x hx=>adw h hx) hm.pa hm.ins p2 l2 p1 l1 n0;have d2:=ajR (bt:=dV k) (X3 h) (fun hx hy=>xZ h hx hy) (fun x hx=>adw h hx) hm.pa hm.ins p2 l2 p1 l1 n0;have hb1:(BST (dV k) (bT (dG k [])) bF (bG k []) n m bg fin).1=w:=by
  rw[show BST (dV k) (bT (dG k [])) bF (bG k []) n m bg fin=(w,k0,q0) from hb]
 rw[hb1]at d1 d2;have og1:=X_ h w1 l1 hm (n-1);have og2:=X_ h w2 l2 hm.turn (n-1);have e1:=tN (pl:=bT (dG k [])) (tm:=bF) (z:=bG k []) (l:=m) l1 (n-1);have e2:=tN (pl:=bT (dG k [])) (tm:=bF) (z:=bG k []) (l:=m.map Ar.turn) l2 (n-1);have o1:∀ x ∈ bg,Og k 3 x:=fun x hx=>(Og.wt h (w1 x hx)).mono ae
 have o2:∀ x ∈ fin,Og k 3 x:=fun x hx=>(Og.wt h (w2 x hx)).mono ae
 have c5:=ajb h hn l1 e2 o1 fun x hx=>(og2 x hx).mono ae
 have c6:=ajb h hn e1 l2 (fun x hx=>(og1 x hx).mono ae) o2;rw[d1]at c5;rw[d2]at c6;generalize jB (bT (dG k [])) bF (bG k []) n m bg (n-1)=v,jB (bT (dG k [])) bF (bG k []) n (m.map Ar.turn) fin (n-1)=x at*;have hz:=adH h gw;have c8:=(af_ h ae ow).2;have hqn:q0<n:=by
  rcases hcase with ⟨_,_,g⟩|⟨_,_,g,_⟩<;>omega
 have hs0:bg[q0]?=some (bg.getD q0 (bG k [])):=getD_at ae
 -- the path
 obtain⟨is,t,his,hlen,hc,hq,aje⟩:∃ is t,ac0 k n m bg fin w k0 q0=is/\is.length<=3/\Chn m q0 is t/\(zx k [] w=true->is=[]/\q0=0)/\(zx k [] w=false->bF (awF bF m (bg.getD q0 (bG k [])) is) (fin.getD t (bG k []))=w):=by
  cases hi:zx k [] w with
  | true =>
   refine⟨[],q0,by unfold ac0;rw[hi,if_pos rfl],aC,.nil,fun _=>⟨rfl,?_⟩,(fun h=>by cases h)⟩;rcases hcase with ⟨_,_,g⟩|⟨g,_⟩
   ·exact g
   ·exact absurd (hz.1 hi) g
  | false =>
   rcases hcase with ⟨g,_⟩|⟨wz,hk0,_,hw0,_⟩
   ·rw[hz.2 g]at hi;cases hi
   ·have hs:=ae_ (n:=n) (fin:=fin) (X3 h) (fun hx hy=>xZ h hx hy) hm.pa hm.ins p2 (eq:=eqW k) (fun hx hy=>aff h hx hy) gw wz k0 (bg.getD q0 (bG k [])) q0 hqn (b_ A.pz p1 q0) (by rw[acD h w2 hm];exact hw0.symm);have hLV:aaG (bT (dG k [])) bF (bG k []) n m fin=fun j q=>(abx k n m fin j).getD q (bG k []):=by
     funext j q
     exact acD h w2 hm j q
    rw[hLV]at hs;obtain⟨t,a1,a2,a3,_⟩:=hs;exact⟨_,t,by unfold ac0;rw[hi,if_neg aC],ae,a1,(fun h=>by cases h),fun _=>a3⟩
 rw[his]at cb;have htn:=aiP hm.ins hc hqn;have hft:fin[t]?=some (fin.getD t (bG k [])):=getD_at ae;have gs0:=zK (z:=bG k []) (Og.zero h 0) (fun x hx=>Og.wt h (w1 x hx)) q0;have gft:=zK (z:=bG k []) (Og.zero h 3) o2 t;have gaw:=(akA h (fun a ha=>(hm.2 a ha).1) is 0 _ gs0).mono (show 0+is.length<=3 by omega);have lab:∀ js:List Nat,(aba m js).length<=js.length:=by
  intro js
  induction js with
  | nil=>simp[aba]
  | cons i js ih =>
   unfold aba;split
   ·split<;>simp<;>omega
   ·simp;omega
 exact aga (e:=bN k) aw vi em st li lf la k n ae bg fin v x m (fun a ha=>⟨(hm.2 a ha).2.1.1,(hml a ha).1,(hm.2 a ha).2.2.1⟩) e1 e2 bF (fun r so=>∃ j,j+r<=3/\Og k j so) w q0 t hqn is ae _ _ hs0 hft hc ⟨0,ae,gs0⟩ _ hq
  (fun r so ⟨j,hj,g⟩ a ha=>by
   have ga:=(Og.wt h (hm.2 a ha).1).mono (Qr1 j);exact⟨(Lc h ae g ga).2,j+1,ae,Og.times h g ga⟩)
  cm cb c1 c2 c5 c6 (by have:=(adW h ae ae ow ow).2;rw[show eqW k w w=true from W.O_ _]at this;exact this) c8 _ (Lc h ae gaw gft).2
  (fun hi=>by
   have:=(adW h ae ae (Og.times h gaw gft) ow).2;rw[aje hi,show eqW k w w=true from W.O_ _]at this;rw[aje hi];exact this)
  (aiL _ (by have:=lab is;omega))
end Fi.S
noncomputable section
namespace Fi.S
open Go Fi
set_option maxHeartbeats 8000000
set_option maxRecDepth 10000
variable {α:Type} {e:α->W}
def pfL:aF:=f1703.body.r.r.r.r.r.r.l.r.bl.lp
def pfI:aF:=pfL.r.l.bl.r.l.r.bl.lp
def pfS (ch:List D)(v9 v12 v13 v14 v16 v17 v19:FV)(i:Nat)(L:List ah):St :=
 (st0 [.u,.u,.u,.d (.s 1 ch),.u,.u,rL 1,rL 2,.u,v9,rL 3,dI i,v12,v13,v14,.u,v16,v17,.u,v19,.u,.u,.u,.u] L)
def acw (m:Nat)(L:List ah)(v:FV)(xs:List Int):Prop:=(v=.d (.n 1)/\xs=[])\/∃ i av,(m<=i/\xs≠[])/\v=.ls (.loc i) av 1 0 xs.length/\L[i]?=some (.row av 1 (LK .i64 xs))
theorem acw.keep {m:Nat}{L L':List ah}{v:FV}{xs:List Int}(h:acw m L v xs)(hk:∀ j,m<=j->j<L.length->L'[j]?=L[j]?):acw m L' v xs:=by
 rcases h with h|⟨i,av,h6,h,hr⟩
 ·exact .inl h
 ·exact .inr ⟨i,av,h6,h,(hk i h6.1 (aT hr)).trans hr⟩
theorem agQ (cs:List Int)(v9:FV)(i:Nat)(L:List ah) :
  Ex E1 pfL.l (pfS (LK .i64 cs) v9 .u .u .u .u .u .u i L) (if i<cs.length/\i<4 then .norm else .exit 0,pfS (LK .i64 cs) v9 .u .u .u (fvB (decide (i<cs.length/\i<4))) .u .u i L):=by
 have hl:(LK .i64 cs).length=cs.length:=by simp[LK]
 generalize cs.length=c at*;apply e6;unfold pfS fvB
 by_cases h:i<c
 ·have h3:(i:Int)<(c:Int):=ae
  by_cases h':i<4
  ·have h4:(i:Int)<4:=ae;rw[if_pos ⟨h,h'⟩,show decide (i<c/\i<4)=true by simp[h,h']];simp[pfL,f1703,hl,h3,h4]
  ·have h4:¬ (i:Int)<4:=ae;rw[if_neg (fun g=>h' g.2),show decide (i<c/\i<4)=false by simp[h,h']];simp[pfL,f1703,hl,h3,h4]
 ·have h3:¬ (i:Int)<(c:Int):=ae;rw[if_neg (fun g=>h g.1),show decide (i<c/\i<4)=false by simp[h]];simp[pfL,f1703,hl,h3]
theorem ahg (ch:List D)(kk:Int)(ps:List Int)(sy st:Int)(bg fin:List D)(aJ:List (Ar α))(s:Int)(k i m:Nat)(hk:k<=100000)(a:Ar α)(ha:aJ[k]?=some a)(xs:List Int)(hxs:xs.length<=1000)(lab:FV)(L:List ah)(hm:4<=m)(hL:m<=L.length)
  (h1:L[1]?=some (bu kk ps sy st bg fin (aJ.map (Ar.d e)))) (hr:acw m L lab xs) :
  ∃ lab' L',Ex E1 pfI (pfS ch (fvI s) lab (fvI k) .u .u .u .u i L) (.norm,pfS ch (fvI s) lab' (fvI (k+1:Nat)) .u .u .u .u i L')/\acw m L' lab' (if a.f=s then xs++[(k:Int)] else xs)/\m<=L'.length/\∀ j,j<m->L'[j]?=L[j]?:=by
 have l1:1<L.length:=(aT h1)
 have m1:(xs.length+1)*8<=most:=by unfold most;omega
 have m2:xs.length+1<=most:=by unfold most;omega
 have hlk:(LK .i64 xs).length=xs.length:=by simp[LK]
 have e2:(aJ.map (Ar.d e))[k]?=some (a.d e):=by simp[ha]
 obtain⟨s',k1,k3,c,b,u',q,ps',_,ed⟩:=a.iA e;rw[ed]at e2;unfold rV at e2;unfold bu at h1;generalize aJ.map (Ar.d e)=es at*;have i1:=idx h1;have j2:=idx e2;have q2:k<es.length:=(aT e2)
 have q3:(k:Int)<(es.length:Int):=ae;have kk0:(0:Int)<=(k:Int):=ae;have aW:ak .i64 ((k:Int)+1)=(k:Int)+1:=wrap_i64 ae;have hk1:((k+1:Nat):Int)=(k:Int)+1:=ae;clear ed;rw[hk1]
 by_cases h0:a.f=s
 ·rw[if_pos h0];subst h0;generalize a.f=f at*;rcases hr with ⟨rfl,rfl⟩|⟨r,av,⟨h6,_⟩,rfl,hr⟩
  ·refine⟨.ls (.loc L.length) 0 1 0 1,L++[.row 0 1 [vI k]],Ex.of (n:=100) ?_,.inr ⟨L.length,0,⟨hL,aC⟩,rfl,by simp[LK]⟩,by simp;omega,fun j hj => ?_⟩
   ·unfold pfS fvI;simp[pfI,pfL,f1703,h1,i1,l1,e2,j2,q2,q3,kk0,aW,most]
   ·rw[Qa0 ae]
  ·have lr:r<L.length:=(aT hr)
   have tk:(LK .i64 xs).take xs.length=LK .i64 xs:=by rw[<-hlk,Qk0]
   refine⟨.ls (.loc r) (av+1) 1 0 (xs.length+1),L.set r (.row (av+1) 1 (LK .i64 xs++[vI k])),Ex.of (n:=100) ?_,.inr ⟨r,av+1,⟨h6,aC⟩,aC,?_⟩,by simpa using hL,fun j hj => ?_⟩
   ·unfold pfS fvI;have ir:=idx hr;simp[pfI,pfL,f1703,h1,i1,l1,e2,j2,q2,q3,kk0,aW,hr,ir,lr,tk,hlk,m1,m2,ah.view]
   ·rw[Qd1 lr,adL]
   ·rw[Qb2 ae]
 ·rw[if_neg h0];have h0':(a.f==s)=false:=by simpa using h0
  refine⟨lab,L,Ex.of (n:=100) ?_,hr,hL,fun _ _=>rfl⟩;unfold pfS fvI;generalize a.f=f at*;simp[pfI,pfL,f1703,h1,i1,l1,e2,j2,q2,q3,kk0,aW,h0,h0']
theorem ajg (ch:List D)(kk:Int)(ps:List Int)(sy st:Int)(bg fin es:List D)(v9 lab:FV)(i:Nat)(L:List ah)(h1:L[1]?=some (bu kk ps sy st bg fin es)) :
  Ex E1 pfI (pfS ch v9 lab (fvI es.length) .u .u .u .u i L) (.exit 2,pfS ch v9 lab (fvI es.length) .u .u (fvB false) .u i L):=by
 have l1:1<L.length:=(aT h1)
 unfold bu at h1;have i1:=idx h1;refine Ex.of (n:=100) ?_;unfold pfS fvI fvB;simp[pfI,pfL,f1703,h1,i1,l1]
def NxI (aJ:List (Ar α))(s:Int)(xs:List Int):Prop:=∀ x ∈ xs,∃ (c:Nat) (a:Ar α),x=c/\aJ[c]?=some a/\a.f=s
theorem af6 (ch:List D)(kk:Int)(ps:List Int)(sy st:Int)(bg fin:List D)(aJ:List (Ar α))(hn:aJ.length<=900)(s:Int)(i m:Nat)(hm:4<=m) :
  ∀ (d k:Nat) (xs:List Int) (lab:FV) (L:List ah),k+d=aJ.length->xs.length<=k->NxI aJ s xs->m<=L.length->L[1]?=some (bu kk ps sy st bg fin (aJ.map (Ar.d e)))->acw m L lab xs ->
  ∃ xs' lab' L',Ex E1 (.loop pfI) (pfS ch (fvI s) lab (fvI k) .u .u .u .u i L) (.exit 2,pfS ch (fvI s) lab' (fvI aJ.length) .u .u (fvB false) .u i L')/\xs'.length<=900/\NxI aJ s xs'/\acw m L' lab' xs'/\m<=L'.length/\∀ j,j<m->L'[j]?=L[j]?
 | 0,k,xs,lab,L,hk,hx,hN,hL,h1,hr=>by
  obtain rfl:k=aJ.length:=ae;have:=ajg ch kk ps sy st bg fin (aJ.map (Ar.d e)) (fvI s) lab i L h1;rw[Qj1]at this;exact⟨xs,lab,L,Ex.leave this aC,ae,hN,hr,hL,fun _ _=>rfl⟩
 | d+1,k,xs,lab,L,hk,hx,hN,hL,h1,hr=>by
  have ha:aJ[k]?=some (aJ[k]'(by omega)):=Qa1 ae;generalize aJ[k]'(by omega)=a at ha;obtain⟨aoF,L1,r1,r2,r3,r4⟩:=ahg (e:=e) ch kk ps sy st bg fin aJ s k i m ae a ha xs ae lab L hm hL h1 hr;have hN':NxI aJ s (if a.f=s then xs++[(k:Int)] else xs):=by
   split
   ·rename_i hf;intro x hxm;rcases Qw0.1 hxm with h|h
    ·exact hN x h
    ·rw[Qx0]at h;exact⟨k,a,h,ha,hf⟩
   ·exact hN
  have hx':(if a.f=s then xs++[(k:Int)] else xs).length<=k+1:=by
   split
   ·simp;omega
   ·omega
  obtain⟨xs',lab',L',s1,s2,s3,s4,s5,s6⟩:=af6 ch kk ps sy st bg fin aJ hn s i m hm d (k+1) _ aoF L1 ae hx' hN' r3 (by rw[r4 1 ae];exact h1) r2;exact⟨xs',lab',L',r1.next s1,s2,s3,s4,s5,fun j hj=>(s6 j hj).trans (r4 j hj)⟩
theorem aj7 (ch:List D)(v9 v13:FV)(i:Nat)(L:List ah):Ex E1 pfL.r.l.bl.r.r.l (pfS ch v9 (.d (.n 1)) v13 .u .u (fvB false) .u i L) (.exit 0,pfS ch v9 (.d (.n 1)) .u .u .u .u (fvB true) i L):=by
 apply e6;unfold pfS fvB;simp[pfL,f1703]
theorem aj8 (ch:List D)(v9 v13:FV)(i r av n:Nat)(hn:0<n)(L:List ah):Ex E1 pfL.r.l.bl.r.r.l (pfS ch v9 (.ls (.loc r) av 1 0 n) v13 .u .u (fvB false) .u i L) (.norm,pfS ch v9 (.ls (.loc r) av 1 0 n) .u .u .u .u (fvB false) i L):=by
 have h0:¬ ((n:Int)=0):=ae;have h1:((n:Int)==0)=false:=by simpa using h0
 have h2:¬ (n=0):=ae;apply e6;unfold pfS fvB;simp[pfL,f1703,h0,h1,h2]
theorem aj9 (cs:List Int)(v9:FV)(i r av:Nat)(z:Int)(hz:cs[i]?=some z)(xs:List Int)(y c:Nat)(hy:xs[y]?=some (c:Int))(L:List ah)(hr:L[r]?=some (.row av 1 (LK .i64 xs)))
  (hc:Ca E1 46 [dI z,dI xs.length] (dI y,none)) :
  Ex E1 pfL.r.l.bl.r.r.r.l (pfS (LK .i64 cs) v9 (.ls (.loc r) av 1 0 xs.length) .u .u .u .u (fvB false) i L) (.norm,pfS (LK .i64 cs) .u .u .u (fvI c) .u .u .u i L):=by
 obtain⟨N,t⟩:=hc.get;have hlk:(LK .i64 xs).length=xs.length:=by simp[LK]
 have e1:(LK .i64 cs)[i]?=some (vI z):=by simp[LK,hz]
 have e2:(LK .i64 xs)[y]?=some (vI c):=by simp[LK,hy]
 generalize LK .i64 cs=ch,LK .i64 xs=ys,xs.length=n at*;have lr:r<L.length:=(aT hr)
 have ir:=idx hr;have q1:i<ch.length:=(aT e1)
 have q2:y<ys.length:=(aT e2)
 have q3:y<n:=ae;have j1:=idx e1;have j2:=idx e2;have i0:(0:Int)<=(i:Int):=ae;have y0:(0:Int)<=(y:Int):=ae;have yn:(y:Int)<(n:Int):=ae;refine Ex.of (n:=N+100) ?_;unfold pfS fvB fvI;simp[pfL,f1703,t,hr,ir,lr,q1,q2,q3,e1,e2,j1,j2,i0,y0,yn,hlk,ah.view]
theorem aj_ (ch:List D)(kk:Int)(ps:List Int)(sy st:Int)(bg fin:List D)(aJ:List (Ar α))(start:Nat)(so p:α)(c i:Nat)(a:Ar α)(ha:aJ[c]?=some a)(is:List Int)(his:is.length<=1000)(qa:FV)(L:List ah)
  (h1:L[1]?=some (bu kk ps sy st bg fin (aJ.map (Ar.d e)))) (h3:L[3]?=some (sj start qa (e so))) (hr:acw 4 L qa is)
  (c1:Ca E1 21 [.d (aU kk ps),.d (e so).d,.d (e a.x).d] (.d (e p).d,none)) :
  ∃ qa' L',Ex E1 pfL.r.l.bl.r.r.r.r (pfS ch .u .u .u (fvI c) .u .u .u i L) (.norm,pfS ch (fvI a.t) .u .u .u .u .u .u i L')/\L'[3]?=some (sj start qa' (e p))/\acw 4 L' qa' (is++[(c:Int)])/\L.length<=L'.length/\∀ j,j<3->L'[j]?=L[j]?:=by
 obtain⟨N,t⟩:=c1.get;have l1:1<L.length:=(aT h1)
 have l3:3<L.length:=(aT h3)
 have m1:(is.length+1)*8<=most:=by unfold most;omega
 have m2:is.length+1<=most:=by unfold most;omega
 have hlk:(LK .i64 is).length=is.length:=by simp[LK]
 have e2:(aJ.map (Ar.d e))[c]?=some (a.d e):=by simp[ha]
 obtain⟨vs,Hz,HV,vc,vb,vu,vp,vq,eso⟩:=(e so).aH;obtain⟨zs,wS,wT,zc,zb,zu,zp,zq,ep⟩:=(e p).aH;obtain⟨s,k1,k3,c',b,u',q,ps',ew,ed⟩:=a.iA e;unfold sj at*;rw[ed]at e2;rw[eso]at h3 t;rw[ew,ep]at t;rw[ep];unfold bu aU wD rV at*;generalize aJ.map (Ar.d e)=es at*;simp only[D.cells,Qe2,Qc2]at*;have i1:=idx h1;have i3:=idx h3;have j2:=idx e2;have q2:c<es.length:=(aT e2)
 have c0:(0:Int)<=(c:Int):=ae;clear ew ed c1 eso ep;rcases hr with ⟨rfl,rfl⟩|⟨r,av,⟨h6,_⟩,rfl,hr⟩
 ·have g1:∀ X,(L++X)[1]?=L[1]?:=fun X=>Qa0 l1
  have g3:∀ X,(L++X)[3]?=L[3]?:=fun X=>Qa0 l3
  have k1':=fun X=>idx ((g1 X).trans h1)
  have k3':=fun X=>idx ((g3 X).trans h3)
  have s3:∀ X o,(L++X).set 3 o=L.set 3 o++X:=fun X o=>Qq2 _ _ l3
  have h9:∀ (o:ah) X,(L.set 3 o++X)[3]?=some o:=fun o X=>by rw[Qa0 (by simpa using l3),Qd1 l3]
  have n1:¬ (L.length=1):=ae;have n3:¬ (L.length=3):=ae;have n1':¬ (1=L.length):=ae;have n3':¬ (3=L.length):=ae;refine⟨.ls (.loc L.length) 0 1 0 1,(L.set 3 (.box (dI start::.ls (.loc L.length) 0 1 0 1::[dB zs,.d (.s 1 wS),.d (.s 1 wT),dI zc,dB zb,.d (.v (.int .u64 zu)),.d (.s 6 zp),.d (.s 8 zq)])))++[.row 0 1 [vI c]],Ex.of (n:=N+200) ?_,?_,.inr ⟨L.length,0,⟨ae,aC⟩,rfl,by simp[LK]⟩,aC,fun j hj => ?_⟩
  ·unfold pfS fvI;simp (maxSteps:=400000) [pfL,f1703,af7,mR,checked,mJ,Dt,Ref.abs,mi,FV.target,t,h1,h3,g1,g3,i1,i3,k1',k3',l1,l3,e2,j2,q2,c0,s3,h9,most,n1,n3,n1',n3']
  ·rw[Qa0 (by simpa using l3),Qd1 l3]
  ·rw[Qa0 (by simp;omega),Qb2 ae]
 ·have lr:r<L.length:=(aT hr)
  have tk:(LK .i64 is).take is.length=LK .i64 is:=by rw[<-hlk,Qk0]
  have n1:¬ (r=1):=ae;have n3:¬ (r=3):=ae;have n1':¬ (1=r):=ae;have n3':¬ (3=r):=ae;refine⟨.ls (.loc r) (av+1) 1 0 (is.length+1),(L.set r (.row (av+1) 1 (LK .i64 is++[vI c]))).set 3 (.box (dI start::.ls (.loc r) (av+1) 1 0 (is.length+1)::[dB zs,.d (.s 1 wS),.d (.s 1 wT),dI zc,dB zb,.d (.v (.int .u64 zu)),.d (.s 6 zp),.d (.s 8 zq)])),Ex.of (n:=N+200) ?_,?_,.inr ⟨r,av+1,⟨h6,aC⟩,aC,?_⟩,aC,fun j hj => ?_⟩
  ·unfold pfS fvI;have ir:=idx hr;simp (maxSteps:=400000) [pfL,f1703,af7,mR,checked,mJ,Dt,Ref.abs,mi,FV.target,t,h1,h3,i1,i3,l1,l3,e2,j2,q2,c0,hr,ir,lr,tk,hlk,m1,m2,ah.view,n1,n3,n1',n3']
  ·rw[Qd1 (by simpa using l3)]
  ·rw[Qb2 ae,Qd1 lr,adL]
  ·rw[Qb2 ae,Qb2 ae]
theorem alV (ch:List D)(v9:FV)(i:Nat)(hi:i<=1000)(L:List ah):Ex E1 pfL.r.r (pfS ch v9 .u .u .u .u .u .u i L) (.norm,pfS ch v9 .u .u .u .u .u .u (i+1) L):=by
 have aW:ak .i64 ((i:Int)+1)=(i:Int)+1:=wrap_i64 ae;have hk1:((i+1:Nat):Int)=(i:Int)+1:=ae;apply e6;unfold pfS;rw[hk1];simp[pfL,f1703,aW]
end Fi.S
noncomputable section
namespace Fi.S
open Go Fi
set_option maxHeartbeats 8000000
set_option maxRecDepth 10000
theorem agb {E:Env}{i j:Nat}(hij:i≠j){b:aF}{st st1:St}(h1:Ex E b st (.exit i,st1)):Ex E (.block j b) st (.exit i,st1):=by
 obtain⟨n1,h1⟩:=h1;refine⟨n1+1,fun n hn => ?_⟩;obtain⟨m,rfl⟩:∃ m,n=m+1:=⟨n-1,ae⟩
 rw[lh,h1 m ae];simp[hij]
variable {α:Type} {e:α->W}
section chn
variable {tm:α->α->α} {l:List (Ar α)}
theorem ajh {s t c:Nat}{is:List Nat}{a:Ar α}(h:Chn l s is t)(ha:l[c]?=some a)(hf:a.f.toNat=t):Chn l s (is++[c]) a.t.toNat:=by
 induction h with
 | nil=>exact .cons ha hf .nil
 | cons h1 h2 _ ih=>exact .cons h1 h2 (ih hf)
theorem aj' {s t c:Nat}{is:List Nat}{a:Ar α}(h:Chn l s is t)(ha:l[c]?=some a):∀ {so:α},awF tm l so (is++[c])=tm (awF tm l so is) a.x:=by
 induction h with
 | nil=>intro so;simp[awF,ha]
 | cons h1 h2 _ ih =>
  intro so;rw[Xb0,awF,h1,awF,h1];exact ih
end chn
theorem aji (ch:List D)(v9:FV)(i:Nat)(L:List ah):Ex E1 pfL.r.l.bl.l (pfS ch v9 .u .u .u (fvB true) .u .u i L) (.norm,pfS ch v9 (.d (.n 1)) .u .u .u .u .u i L):=by
 apply e6;unfold pfS fvB;simp[pfL,f1703]
theorem anu (ch:List D)(v9 v12:FV)(i:Nat)(L:List ah):Ex E1 pfL.r.l.bl.r.l.l (pfS ch v9 v12 .u .u .u .u .u i L) (.norm,pfS ch v9 v12 (fvI (0:Nat)) .u .u .u .u i L):=by
 apply e6;unfold pfS fvI;rw[show((0:Nat):Int)=0 from rfl];simp[pfL,f1703]
theorem agT (cs:List Int)(hcs:∀ z ∈ cs,ib z)(kk:Int)(ps:List Int)(sy st0:Int)(bg fin:List D)(aJ:List (Ar α))(hn:aJ.length<=900)(hp:∀ a ∈ aJ,0<=a.f/\0<=a.t)(start:Nat)(tm:α->α->α)(Qs:Nat->α->Prop)
  (hQ:∀ j so,j<4->Qs j so->∀ a ∈ aJ,Ca E1 21 [.d (aU kk ps),.d (e so).d,.d (e a.x).d] (.d (e (tm so a.x)).d,none)/\Qs (j+1) (tm so a.x)) (s0:α) (pb:ah) :
  ∀ (d i:Nat) (done:List Nat) (s:Nat) (qa:FV) (L:List ah),i+d=4->done.length=i->Chn aJ start done s->Qs i (awF tm aJ s0 done)->4<=L.length->L[1]?=some (bu kk ps sy st0 bg fin (aJ.map (Ar.d e)))->L[2]?=some pb->L[3]?=some (sj start qa (e (awF tm aJ s0 done)))->acw 4 L qa (nI done) ->
   ∃ (v12 v16 v19:FV) (i':Nat) (done':List Nat) (s':Nat) (qa':FV) (L':List ah),Ex E1 (.loop pfL) (pfS (LK .i64 cs) (fvI s) .u .u .u .u .u .u i L) (.exit 0,pfS (LK .i64 cs) (fvI s') v12 .u .u v16 .u v19 i' L')/\done'.length<=4/\Chn aJ start done' s'/\Qs done'.length (awF tm aJ s0 done') /\
    L'[1]?=some (bu kk ps sy st0 bg fin (aJ.map (Ar.d e)))/\L'[2]?=some pb/\L'[3]?=some (sj start qa' (e (awF tm aJ s0 done')))/\acw 4 L' qa' (nI done')
 | 0,i,done,s,qa,L,hi,hd,hc,hq,hL,h1,h2,h3,hr=>by
  have h:=agQ cs (fvI s) i L;rw[if_neg ae]at h;exact⟨_,_,_,i,done,s,qa,L,Ex.leave (acn h) aC,ae,hc,hd ▸ hq,h1,h2,h3,hr⟩
 | d+1,i,done,s,qa,L,hi,hd,hc,hq,hL,h1,h2,h3,hr=>by
  have h:=agQ cs (fvI s) i L
  by_cases hil:i<cs.length
  ·rw[if_pos ⟨hil,ae⟩,show decide (i<cs.length/\i<4)=true by simp;omega]at h;have hz:cs[i]?=some (cs[i]'hil):=Qa1 hil;have hzm:=hcs _ (Qi0 hil);generalize cs[i]'hil=z at*;obtain⟨xs,lab,L1,r1,x1,x2,x3,x4,x5⟩:=af6 (e:=e) (LK .i64 cs) kk ps sy st0 bg fin aJ hn s i L.length hL aJ.length 0 [] (.d (.n 1)) L ae aC (fun x hx=>by cases hx) (Qd2 _) h1 (.inl ⟨rfl,rfl⟩);have rX:=(Ex.seq (anu (LK .i64 cs) (fvI s) (.d (.n 1)) i L) (Ex.block r1))
   have k1:L1[1]?=some (bu kk ps sy st0 bg fin (aJ.map (Ar.d e))):=by rw[x5 1 ae];exact h1
   have k2:L1[2]?=some pb:=by rw[x5 2 ae];exact h2
   have k3:L1[3]?=some (sj start qa (e (awF tm aJ s0 done))):=by rw[x5 3 ae];exact h3
   have kr:acw 4 L1 qa (nI done):=hr.keep fun j hj hjl=>x5 j hjl
   rcases x3 with ⟨rfl,rfl⟩|⟨r,av,⟨hmr,hne⟩,rfl,hrow⟩
   ·refine⟨_,_,_,i,done,s,qa,L1,Ex.leave (r:=(.exit 0,_)) (h.seq (acn (agb ae ((aji (LK .i64 cs) (fvI s) i L).seq (rX.seq (acn (aj7 (LK .i64 cs) (fvI s) _ i L1))))))) aC,ae,hc,hd ▸ hq,k1,k2,k3,kr⟩
   ·have hlen:0<xs.length:=Xh2.2 hne;have m0:=Qo2 z (show(xs.length:Int)≠0 by omega);have m1:=Qm1 z (show(0:Int)<(xs.length:Int) by omega);have cm:=Ca.gM (iR z (xs.length:Int) hzm ae ae);obtain⟨y,hy⟩:∃ y:Nat,(y:Int)=z % (xs.length:Int):=⟨(z % (xs.length:Int)).toNat,ae⟩
    rw[<-hy]at cm;have hyl:y<xs.length:=ae;have hyx:xs[y]?=some (xs[y]'hyl):=Qa1 hyl;obtain⟨c,a,g1,g2,g3⟩:=x2 _ (Qi0 hyl);rw[g1]at hyx;have ham:=Qa2 g2;obtain⟨p1,p2⟩:=hp a ham;obtain⟨c1,q1⟩:=hQ i (awF tm aJ s0 done) ae hq a ham;have s1:=aj8 (LK .i64 cs) (fvI s) (fvI aJ.length) i r av xs.length hlen L1;have s2:=aj9 cs (fvI s) i r av z hz xs y c hyx L1 hrow cm;obtain⟨qa',L2,s3,y1,y2,y3,y4⟩:=aj_ (e:=e) (LK .i64 cs) kk ps sy st0 bg fin aJ start (awF tm aJ s0 done) (tm (awF tm aJ s0 done) a.x) c i a g2 (nI done) (by simp[nI];omega) qa L1 k1 k3 kr c1;have s4:=alV (LK .i64 cs) (fvI a.t) i ae L2;have hat:(a.t.toNat:Int)=a.t:=ae;have hfs:a.f.toNat=s:=ae;have hc':=ajh hc g2 hfs;have ea:awF tm aJ s0 (done++[c])=tm (awF tm aJ s0 done) a.x:=aj' hc g2;have en:nI (done++[c])=nI done++[(c:Int)]:=by simp[nI]
    obtain⟨v12,v16,v19,i',done',s',aoH,L',e1,e2,e3,e4,e5,e6,e7,e8⟩:=agT cs hcs kk ps sy st0 bg fin aJ hn hp start tm Qs hQ s0 pb d (i+1) (done++[c]) a.t.toNat qa' L2 ae (by simp[hd]) hc' (by rw[ea];exact q1) ae (by rw[y4 1 ae];exact k1) (by rw[y4 2 ae];exact k2) (by rw[ea];exact y1) (by rw[en];exact y2);rw[hat]at e1;exact⟨v12,v16,v19,i',done',s',aoH,L',(h.seq ((Ex.eZ ((aji (LK .i64 cs) (fvI s) i L).seq (rX.seq (s1.seq (s2.seq s3))))).seq s4)).next e1,e2,e3,e4,e5,e6,e7,e8⟩
  ·rw[if_neg (fun g=>hil g.1)]at h;exact⟨_,_,_,i,done,s,qa,L,Ex.leave (acn h) aC,ae,hc,hd ▸ hq,h1,h2,h3,hr⟩
def pfE (v5 v20 v21 v22 v23:FV)(L:List ah):St :=
 (st0 [.u,.u,.u,.u,.u,v5,rL 1,rL 2,.u,.u,rL 3,.u,.u,.u,.u,.u,.u,.u,.u,.u,v20,v21,v22,v23] L)
theorem alW (ch:List D)(v12 v16 v19 qa:FV)(kk sy:Int)(n:Nat)(bg:List D)(fin:List α)(es:List D)(start t i:Nat)(so u ft:α)(hft:fin[t]?=some ft)(L:List ah)
  (h1:L[1]?=some (bu kk [] sy n bg (fin.map fun x=>(e x).d) es)) (h3:L[3]?=some (sj start qa (e so))) (c:Ca E1 21 [.d (aU kk []),.d (e so).d,.d (e ft).d] (.d (e u).d,none)) :
  Ex E1 f1703.body.r.r.r.r.r.r.r.l (pfS ch (fvI t) v12 .u .u v16 .u v19 i L) (.norm,pfE .u .u .u .u .u (L.set 3 (sj start qa (e u)))):=by
 obtain⟨N,t1⟩:=c.get;have l1:1<L.length:=(aT h1)
 have l3:3<L.length:=(aT h3)
 have e1:(fin.map fun x=>(e x).d)[t]?=some (e ft).d:=by simp[hft]
 generalize (fin.map fun x=>(e x).d)=fs at*;obtain⟨vs,Hz,HV,vc,vb,vu,vp,vq,eso⟩:=(e so).aH;obtain⟨zs,wS,wT,zc,zb,zu,zp,zq,eu⟩:=(e u).aH;obtain⟨rs,rl1,rl2,rc,rb,ru,rp,rq,eft⟩:=(e ft).aH;unfold sj at*;rw[eso]at h3 t1;rw[eft]at e1 t1;rw[eu]at t1 ⊢;unfold bu aU wD at*;simp only[D.cells,Qe2,Qc2]at*;generalize LK .i64 []=l9 at*;have i1:=idx h1;have i3:=idx h3;have j1:=idx e1;have q1:t<fs.length:=(aT e1)
 have tt:(0:Int)<=(t:Int):=ae;clear eso eft eu hft c;refine Ex.of (n:=N+100) ?_;unfold pfS pfE fvI;simp[f1703,t1,h1,h3,i1,i3,l1,l3,e1,j1,q1,tt]
section fin
variable {kk sy:Int} {n:Nat} {bg fin es:List D} {q0 start:Nat} {qa:FV} {is js:List Int} {w u:W} {L:List ah} (h1:L[1]?=some (bu kk [] sy n bg fin es)) (h2:L[2]?=some (aam q0 is w)) (h3:L[3]?=some (sj start qa u))
include h1 h3
theorem alX {iz:Bool}(c:Ca E1 1126 [.d (aU kk []),.d u.d] (dB iz,none)) :
  Ex E1 f1703.body.r.r.r.r.r.r.r.r.l.l (pfE .u .u .u .u .u L) (.norm,pfE .u (fvB iz) .u .u .u L):=by
 obtain⟨N,t1⟩:=c.get;have l1:1<L.length:=(aT h1)
 have l3:3<L.length:=(aT h3)
 obtain⟨zs,wS,wT,zc,zb,zu,zp,zq,eu⟩:=u.aH;unfold sj at h3;rw[eu]at h3 t1;unfold bu aU wD at*;simp only[D.cells,Qe2,Qc2]at*;generalize LK .i64 []=l9 at*;have i1:=idx h1;have i3:=idx h3;clear eu c;refine Ex.of (n:=N+100) ?_;unfold pfE fvB;simp[f1703,t1,h1,h3,i1,i3,l1,l3]
omit h1 h3 in
theorem agZ:Ex E1 f1703.body.r.r.r.r.r.r.r.r.l.r (pfE .u (fvB false) .u .u .u L) (.norm,pfE .u (fvB false) .u .u .u L):=by
 apply e6;unfold pfE fvB;simp[f1703]
omit h1 h3 in
theorem aka (aw:Ca E1 1706 [] (dB true,none)):∃ s',Ex E1 f1703.body.r.r.r.r.r.r.r.r.l.r (pfE .u (fvB true) .u .u .u L) (.ret,s')/\finish f1703 s'=some (dB true,none):=by
 obtain⟨N,t1⟩:=aw.get;unfold pfE fvB;refine⟨_,Ex.of (n:=N+60) (by
  simp[f1703,t1];rfl),?_⟩
 simp[finish,show f1703.res=[.var 5] from rfl,show f1703.ref=false from rfl]
include h2
theorem akb (aw:Ca E1 1706 [] (dB true,none))(hr:acw 4 L qa js){b:Bool}(c1:Ca E1 25 [.d (aU kk []),.d u.d,.d w.d] (dB false,none))(c:Ca E1 25 [.d (aU kk []),.d w.d,.d u.d] (dB b,none))(hb:b=true\/is.length<js.length) :
  ∃ s',Ex E1 f1703.body.r.r.r.r.r.r.r.r.r.l (pfE .u (fvB false) .u .u .u L) (.ret,s')/\finish f1703 s'=some (dB true,none):=by
 obtain⟨K,hK,t0,t1,t2⟩:=(aw.j (c1.j c.any)).at 0;have l1:1<L.length:=(aT h1)
 have l2:2<L.length:=(aT h2)
 have l3:3<L.length:=(aT h3)
 have hk1:(LK .i64 is).length=is.length:=by simp[LK]
 obtain⟨zs,wS,wT,zc,zb,zu,zp,zq,eu⟩:=u.aH;obtain⟨vs,Hz,HV,vc,vb,vu,vp,vq,ew⟩:=w.aH;unfold sj at h3;unfold aam at h2;rw[eu]at h3 t1 t2;rw[ew]at h2 t1 t2;unfold bu aU wD at*;simp only[D.cells,Qe2,Qc2]at*;generalize LK .i64 []=l9 at*;have i1:=idx h1;clear eu ew c c1 aw hK;unfold pfE fvB;rcases hr with ⟨rfl,rfl⟩|⟨r,av,_,rfl,hr⟩
 ·have i3:=idx h3;have hb1:b=true:=by
   rcases hb with h|h
   ·exact h
   ·simp at h
  subst hb1;generalize LK .i64 is=ys at*;have i2:=idx h2;refine⟨_,Ex.of (n:=K+200) (by
   simp (maxSteps:=400000) [f1703,t0,t1,t2,h1,h2,h3,i1,i2,i3,l1,l2,l3];rfl),?_⟩
  simp[finish,show f1703.res=[.var 5] from rfl,show f1703.ref=false from rfl]
 ·generalize js.length=jl at*;have i3:=idx h3;have i2:=idx h2;cases b with
  | true =>
   refine⟨_,Ex.of (n:=K+200) (by
    simp (maxSteps:=400000) [f1703,t0,t1,t2,h1,h2,h3,i1,i2,i3,l1,l2,l3];rfl),?_⟩
   simp[finish,show f1703.res=[.var 5] from rfl,show f1703.ref=false from rfl]
  | false =>
   have hlt:((is.length:Nat):Int)<(jl:Int):=by
    rcases hb with h|h
    ·cases h
    ·omega
   refine⟨_,Ex.of (n:=K+200) (by
    simp (maxSteps:=400000) [f1703,t0,t1,t2,h1,h2,h3,i1,i2,i3,l1,l2,l3,hk1,hlt];rfl),?_⟩
   simp[finish,show f1703.res=[.var 5] from rfl,show f1703.ref=false from rfl]
def pfZ (L:List ah):St :=
 (st0 [.u,.u,.u,.u,.u,.u,.u,rL 2,.u,.u,rL 3,.u,.u,.u,.u,.u,.u,.u,.u,.u,.u,.u,.u,dB false] L)
theorem akc (hr:acw 4 L qa js)(c1:Ca E1 25 [.d (aU kk []),.d u.d,.d w.d] (dB false,none))(c:Ca E1 25 [.d (aU kk []),.d w.d,.d u.d] (dB false,none))(hl:is.length=js.length)(hs:q0<=start) :
  Ex E1 f1703.body.r.r.r.r.r.r.r.r.r.l (pfE .u (fvB false) .u .u .u L) (.norm,pfZ L):=by
 obtain⟨K,hK,t1,t2⟩:=(c1.j c.any).at 0;have l1:1<L.length:=(aT h1)
 have l2:2<L.length:=(aT h2)
 have l3:3<L.length:=(aT h3)
 have hk1:(LK .i64 is).length=js.length:=by simp[LK,hl]
 have hs':¬ ((start:Int)<(q0:Int)):=ae;obtain⟨zs,wS,wT,zc,zb,zu,zp,zq,eu⟩:=u.aH;obtain⟨vs,Hz,HV,vc,vb,vu,vp,vq,ew⟩:=w.aH;unfold sj at h3;unfold aam at h2;rw[eu]at h3 t1 t2;rw[ew]at h2 t1 t2;unfold bu aU wD at*;simp only[D.cells,Qe2,Qc2]at*;generalize LK .i64 []=l9 at*;have i1:=idx h1;clear eu ew c c1 hK;unfold pfE pfZ fvB;rcases hr with ⟨rfl,rfl⟩|⟨r,av,_,rfl,hr⟩
 ·obtain rfl:is=[]:=Q20.1 hl;have i3:=idx h3;have i2:=idx h2;refine Ex.of (n:=K+200) ?_;simp (maxSteps:=400000) [f1703,t1,t2,h1,h2,h3,i1,i2,i3,l1,l2,l3,hk1,hs']
 ·generalize js.length=jl at*;have i3:=idx h3;have i2:=idx h2;refine Ex.of (n:=K+200) ?_;simp (maxSteps:=400000) [f1703,t1,t2,h1,h2,h3,i1,i2,i3,l1,l2,l3,hk1,hs']
omit h1 in
theorem akd (aw:Ca E1 1706 [] (dB true,none))(hr:acw 4 L qa js)(hl:is.length=js.length)(hn:is.length<=1000)(hs:q0<start\/q0=start/\abh is js<=0) :
  ∃ s',Ex E1 f1703.body.r.r.r.r.r.r.r.r.r.r (pfZ L) (.ret,s')/\finish f1703 s'=some (dB true,none):=by
 obtain⟨K,hK,t0,t1⟩:=(aw.j ((af3 is js ae hl).any)).at 0;have l2:2<L.length:=(aT h2)
 have l3:3<L.length:=(aT h3)
 have hk1:(LK .i64 is).length=js.length:=by simp[LK,hl]
 have hk2:(LK .i64 js).length=js.length:=by simp[LK]
 obtain⟨zs,wS,wT,zc,zb,zu,zp,zq,eu⟩:=u.aH;obtain⟨vs,Hz,HV,vc,vb,vu,vp,vq,ew⟩:=w.aH;unfold sj at h3;unfold aam at h2;rw[eu]at h3;rw[ew]at h2;unfold wD at*;simp only[D.cells,Qe2,Qc2]at*;generalize abh is js=cc at*;clear eu ew hK aw;unfold pfZ;have e0:LK .i64 []=[]:=rfl;rcases hr with ⟨rfl,rfl⟩|⟨r,av,_,rfl,hr⟩
 ·obtain rfl:is=[]:=Q20.1 hl;rw[e0]at*;have i2:=idx h2;have i3:=idx h3;rcases hs with hs|⟨hs,hc⟩
  ·have hs':(q0:Int)<(start:Int):=ae;refine⟨_,Ex.of (n:=K+200) (by
    simp (maxSteps:=400000) [f1703,t0,t1,h2,h3,i2,i3,l2,l3,hs'];rfl),?_⟩
   simp[finish,show f1703.res=[.var 5] from rfl,show f1703.ref=false from rfl]
  ·subst hs;refine⟨_,Ex.of (n:=K+200) (by
    simp (maxSteps:=400000) [f1703,t0,t1,h2,h3,i2,i3,l2,l3,hc];rfl),?_⟩
   simp[finish,show f1703.res=[.var 5] from rfl,show f1703.ref=false from rfl]
 ·have tk:(LK .i64 js).take js.length=LK .i64 js:=by rw[<-hk2,Qk0]
  generalize js.length=jl at*;have i2:=idx h2;have i3:=idx h3;have lr:r<L.length:=(aT hr)
  have ir:=idx hr;rcases hs with hs|⟨hs,hc⟩
  ·have hs':(q0:Int)<(start:Int):=ae;refine⟨_,Ex.of (n:=K+200) (by
    simp (maxSteps:=400000) [f1703,t0,t1,h2,h3,i2,i3,l2,l3,hs',hr,ir,lr,tk,hk2,ah.view];rfl),?_⟩
   simp[finish,show f1703.res=[.var 5] from rfl,show f1703.ref=false from rfl]
  ·subst hs;refine⟨_,Ex.of (n:=K+200) (by
    simp (maxSteps:=400000) [f1703,t0,t1,h2,h3,i2,i3,l2,l3,hc,hr,ir,lr,tk,hk2,ah.view];rfl),?_⟩
   simp[finish,show f1703.res=[.var 5] from rfl,show f1703.ref=false from rfl]
end fin
end Fi.S
noncomputable section
namespace Fi.S
open Go Fi
set_option maxHeartbeats 8000000
set_option maxRecDepth 10000
variable {α:Type} {e:α->W}
theorem agc (aw:Ca E1 1706 [] (dB true,none))(vi em:Bool)(st:Int)(li lf la:List Int)(start:Int)(hst:ib start)(cs:List Int)(hcs:∀ z ∈ cs,ib z)(kk:Int)(n:Nat)(hn:n<=64)(bg fin:List α)(aJ:List (Ar α))(hal:aJ.length<=900)(hp:∀ a ∈ aJ,0<=a.f/\0<=a.t)
  (tm:α->α->α) (Qs:Nat->α->Prop) (hQ:∀ j so,j<4->Qs j so->∀ a ∈ aJ,Ca E1 21 [.d (aU kk []),.d (e so).d,.d (e a.x).d] (.d (e (tm so a.x)).d,none)/\Qs (j+1) (tm so a.x))
  (w:α) (q0 s:Nat) (hs:(s:Int)=start % (n:Int)) (hsn:s<n) (s0:α) (hs0:bg[s]?=some s0) (q00:Qs 0 s0) (is:List Nat) (hlen:is.length<=900) (wd:List Int)
  (h1:Ca E1 1707 [dB vi,.d (.a [vI st,.s 1 (LK .i64 li),.s 1 (LK .i64 lf),.s 1 (LK .i64 la),vB em])] (.d (jh kk [] 2 n (bg.map fun x=>(e x).d) (fin.map fun x=>(e x).d) (aJ.map (Ar.d e))),none))
  (h2:Ca E1 1717 [.d (jh kk [] 2 n (bg.map fun x=>(e x).d) (fin.map fun x=>(e x).d) (aJ.map (Ar.d e)))] (.d (.t [paD q0 (nI is) (e w),.s 1 (LK .i64 wd),vI 0]),none))
  (hfin:∀ js t,Chn aJ s js t->js.length<=4->Qs js.length (awF tm aJ s0 js)->∃ ft u iz,fin[t]?=some ft/\Ca E1 21 [.d (aU kk []),.d (e (awF tm aJ s0 js)).d,.d (e ft).d] (.d (e u).d,none)/\Ca E1 1126 [.d (aU kk []),.d (e u).d] (dB iz,none) /\
   (iz=false->Ca E1 25 [.d (aU kk []),.d (e u).d,.d (e w).d] (dB false,none)/\∃ b,Ca E1 25 [.d (aU kk []),.d (e w).d,.d (e u).d] (dB b,none) /\
    (b=false->¬ is.length<js.length->is.length=js.length/\(q0<s\/q0=s/\abh (nI is) (nI js)<=0)))) :
  Ca E1 1703 [dB vi,.d (.a [vI st,.s 1 (LK .i64 li),.s 1 (LK .i64 lf),.s 1 (LK .i64 la),vB em]),dI start,.d (.s 1 (LK .i64 cs))] (dB true,none):=by
 obtain⟨mb,hmb⟩:∃ mb,mb=ah.box [dI st,.d (.s 1 (LK .i64 li)),.d (.s 1 (LK .i64 lf)),.d (.s 1 (LK .i64 la)),dB em]:=⟨_,rfl⟩
 obtain⟨ab,hab⟩:∃ ab,ab=bu kk [] 2 n (bg.map fun x=>(e x).d) (fin.map fun x=>(e x).d) (aJ.map (Ar.d e)):=⟨_,rfl⟩
 obtain⟨pb,hpb⟩:∃ pb,pb=aam q0 (nI is) (e w):=⟨_,rfl⟩
 obtain⟨qb,hqb⟩:∃ qb,qb=sj s (.d (.n 1)) (e s0):=⟨_,rfl⟩
 obtain⟨v12,v16,v19,i',js,t,qa,L,r1,g0,g1,g2,g3,g4,g5,g6⟩:=agT (e:=e) cs hcs kk [] 2 n (bg.map fun x=>(e x).d) (fin.map fun x=>(e x).d) aJ hal hp s tm Qs hQ s0 pb 4 0 [] s (.d (.n 1)) [mb,ab,pb,qb] ae rfl .nil q00 aC (by rw[hab];rfl) rfl (by rw[hqb];rfl) (.inl ⟨rfl,rfl⟩);obtain⟨ft,u,iz,f1,f2,f3,f4⟩:=hfin js t g1 g0 g2;have l3:3<L.length:=(aT g5)
 have r2:=alW (LK .i64 cs) v12 v16 v19 qa kk 2 n (bg.map fun x=>(e x).d) fin (aJ.map (Ar.d e)) s t i' (awF tm aJ s0 js) u ft f1 L g3 g5 f2;obtain⟨L2,hL2⟩:∃ L2,L2=L.set 3 (sj s qa (e u)):=⟨_,rfl⟩
 rw[<-hL2]at r2;have k1:L2[1]?=some (bu kk [] 2 n (bg.map fun x=>(e x).d) (fin.map fun x=>(e x).d) (aJ.map (Ar.d e))):=by rw[hL2,Qb2 ae];exact g3
 have k2:L2[2]?=some (aam q0 (nI is) (e w)):=by rw[hL2,Qb2 ae,<-hpb];exact g4
 have k3:L2[3]?=some (sj s qa (e u)):=by rw[hL2,Qd1 l3]
 have kr:acw 4 L2 qa (nI js):=g6.keep fun j hj hjl=>by rw[hL2,Qb2 ae]
 have r3:=alX k1 k3 f3;have hE:∃ s',Ex E1 f1703.body.r.r.r.r.r.r.r (pfS (LK .i64 cs) (fvI t) v12 .u .u v16 .u v19 i' L) (.ret,s')/\finish f1703 s'=some (dB true,none):=by
  cases iz with
  | true =>
   obtain⟨s',r4,r5⟩:=aka (L:=L2) aw;exact⟨s',r2.seq (Ex.gp (r3.seq r4)),r5⟩
  | false =>
   obtain⟨c1,b,c2,hb⟩:=f4 rfl
   by_cases hbb:b=true\/is.length<js.length
   ·obtain⟨s',r4,r5⟩:=akb k1 k2 k3 aw kr c1 c2 (by simpa[nI] using hbb);exact⟨s',r2.seq ((r3.seq agZ).seq (Ex.gp r4)),r5⟩
   ·have hb1:b=false:=by
     cases b with
     | false=>rfl
     | true=>exact absurd (.inl rfl) hbb
    subst hb1;obtain⟨e1,e2⟩:=hb rfl fun g=>hbb (.inr g)
    have r4:=akc k1 k2 k3 kr c1 c2 (by simpa[nI] using e1) ae;obtain⟨s',r5,r6⟩:=akd k2 k3 aw kr (by simpa[nI] using e1) (by simp[nI];omega) e2;exact⟨s',r2.seq ((r3.seq agZ).seq (r4.seq r5)),r6⟩
 obtain⟨sf,r3',r4'⟩:=hE;have cm:=Ca.gM (iR start (n:Int) hst ae ae);rw[<-hs]at cm;obtain⟨K,hK,t1,t2,t3⟩:=(h1.j (h2.j cm.any)).at 0;have es0:(bg.map fun x=>(e x).d)[s]?=some (e s0).d:=by simp[hs0]
 clear h1 h2 cm hQ hfin hK aw r2 r3 g1 g2 g3 g4 g5 g6 k1 k2 k3 kr hL2 f1 f2 f3 f4 hs0;have e0:LK .i64 []=[]:=rfl;generalize (bg.map fun x=>(e x).d)=ins,(fin.map fun x=>(e x).d)=fs,aJ.map (Ar.d e)=es,LK .i64 cs=ch at*;obtain⟨ws,TC,TD,wc,wb',wu,wp,wq,ew⟩:=(e w).aH;obtain⟨ss,sl1,sl2,sc,sb,su,sp,sq,anv⟩:=(e s0).aH;unfold aam at hpb;unfold sj at hqb;unfold paD at t2;rw[ew]at hpb t2;rw[anv]at hqb es0;unfold bu at hab;unfold jh at t1 t2;unfold wD at*;simp only[D.cells,Qe2,Qc2,e0]at*;generalize LK .i64 (nI is)=ys,LK .i64 li=l7,LK .i64 lf=l8,LK .i64 la=l6 at*;have j1:=idx es0;have q1:s<ins.length:=(aT es0)
 have ss0:(0:Int)<=(s:Int):=ae;clear ew anv;have sA:Ex E1 f1703.body.l (st0 (dB vi::.d (.a [vI st,.s 1 l7,.s 1 l8,.s 1 l6,vB em])::dI start::.d (.s 1 ch)::amH) [])
   (.norm,(st0 (dB vi::.u::dI start::.d (.s 1 ch)::rL 0::akE) [mb])):=by
  apply e6;rw[hmb];simp[f1703]
 have sB := nx sA f1703.body.r.l (st0 (.u::.u::dI start::.d (.s 1 ch)::.u::.u::rL 1::agr) [mb,ab]) (by
  refine Ex.of (n:=K+60) ?_;rw[hmb,hab];simp[f1703,t1])
 have sC := nx sB f1703.body.r.r.l (st0 (.u::.u::dI start::.d (.s 1 ch)::.u::.u::rL 1::rL 2::dI 0::TS) [mb,ab,pb]) (by
  refine Ex.of (n:=K+100) ?_;rw[hab,hpb];simp[f1703,t2])
 have sD := nx sC f1703.body.r.r.r.l (st0 (.u::.u::dI start::.d (.s 1 ch)::.u::.u::rL 1::rL 2::.u::.u::.u::.u::.u::.u::.u::dB false::zW) [mb,ab,pb]) (by
  apply e6;simp[f1703])
 have sE := nx sD f1703.body.r.r.r.r.l (st0 (.u::.u::.u::.d (.s 1 ch)::.u::.u::rL 1::rL 2::.u::dI s::Ma) [mb,ab,pb]) (by
  refine Ex.of (n:=K+60) ?_;rw[hab];simp[f1703,t3])
 have sF := nx sE f1703.body.r.r.r.r.r.l (st0 (.u::.u::.u::.d (.s 1 ch)::.u::.u::rL 1::rL 2::.u::dI s::rL 3::EZ) [mb,ab,pb,qb]) (by
  refine Ex.of (n:=100) ?_;rw[hab,hqb];simp[f1703,es0,j1,q1,ss0])
 have sG := nx sF f1703.body.r.r.r.r.r.r.l.l (pfS ch (fvI s) .u .u .u .u .u .u 0 [mb,ab,pb,qb]) (by
  apply e6;unfold pfS fvI;rw[show((0:Nat):Int)=0 from rfl];simp[f1703])
 exact Ca.body (o:=.ret) rfl (aO 1703 f1703:E1.fn _=_) rfl (sA.seq (sB.seq (sC.seq (sD.seq (sE.seq (sF.seq ((Ex.seq sG (Ex.block r1)).seq r3'))))))) aC r4'
end Fi.S
noncomputable section
namespace Fi.S
open Go Fi
set_option maxHeartbeats 8000000
set_option maxRecDepth 10000
theorem ag0:∀ {a b:List Nat},agk a b->a.length=b.length->abh (nI a) (nI b)<=0
 | [],[],_,_=>by simp[nI,abh]
 | [],_::_,_,h=>by simp at h
 | _::_,[],_,h=>by simp at h
 | x::a,y::b,h,hl=>by
  show abh ((x:Int)::nI a) ((y:Int)::nI b)<=0;rw[abh];rcases h with h|⟨rfl,h⟩
  ·rw[if_pos ae];decide
  ·rw[if_neg ae,if_neg ae];exact ag0 h (by simpa using hl)
theorem ajj (vi em:Bool)(st:Int)(li lf la:List Int)(start:Int)(cs:List Int)(hli:∀ x ∈ li,ib x)(hlf:∀ x ∈ lf,ib x)(hla:∀ x ∈ la,ib x)(hst:ib start)(hcs:∀ x ∈ cs,ib x)(aw:Ca E1 1706 [] (dB true,none)) :
  Ca E1 1703 [dB vi,.d (.a [vI st,.s 1 (LK .i64 li),.s 1 (LK .i64 lf),.s 1 (LK .i64 la),vB em]),dI start,.d (.s 1 (LK .i64 cs))] (dB true,none):=by
 obtain⟨k,hk⟩:∃ k:Int,k=if vi then 3 else 2:=⟨_,rfl⟩
 have h:k=2\/k=3:=by rw[hk];cases vi<;>simp
 obtain⟨n,bg,fin,m,hn,n0,l1,l2,w1,w2,hm,hml,hid,cm⟩:=Oe vi em st li lf la hli hlf hla k hk;obtain⟨w,k0,q0,hb,ow,gw,hall,hcase⟩:=acE h hn n0 l1 l2 w1 w2 hm;have cb:=aeM h hn n0 l1 l2 w1 w2 hm hml hid w k0 q0 hb;have O:=X3 h;have A:=O.gm;have p1:∀ x ∈ bg,Ba (dG k []) x:=fun x hx=>(w1 x hx).gd
 have p2:∀ x ∈ fin,Ba (dG k []) x:=fun x hx=>(w2 x hx).gd
 have hbt:∀ {x y},Ba (dG k []) x->Ba (dG k []) y->(if dV k x y then x else y)=bT (dG k []) y x:=fun hx hy=>xZ h hx hy
 have r1:=Qo2 start (show(n:Int)≠0 by omega);have r2:=Qm1 start (show(0:Int)<(n:Int) by omega);obtain⟨s,hs⟩:∃ s:Nat,(s:Int)=start % (n:Int):=⟨(start % (n:Int)).toNat,ae⟩
 have hsn:s<n:=ae;have hs0:bg[s]?=some (bg.getD s (bG k [])):=getD_at ae;have gs0:=zK (z:=bG k []) (Og.zero h 0) (fun x hx=>Og.wt h (w1 x hx)) s;have hz:=adH h gw
 -- the path that anx finds
 have akB:w≠bG k []->k0<n/\(ac0 k n m bg fin w k0 q0).length=k0/\q0<n /\
   ∀ js t,Chn m q0 js t->js.length=k0->bF (awF bF m (bg.getD q0 (bG k [])) js) (fin.getD t (bG k []))=w->agk (ac0 k n m bg fin w k0 q0) js:=fun wz=>by
  rcases hcase with ⟨g,_⟩|⟨_,hk0,hq0,hw0,_⟩
  ·exact absurd g wz
  have hs:=ae_ (n:=n) (fin:=fin) O hbt hm.pa hm.ins p2 (eq:=eqW k) (fun hx hy=>aff h hx hy) gw wz k0 (bg.getD q0 (bG k [])) q0 hq0 (b_ A.pz p1 q0) (by rw[acD h w2 hm];exact hw0.symm);have hLV:aaG (bT (dG k [])) bF (bG k []) n m fin=fun j q=>(abx k n m fin j).getD q (bG k []):=by
   funext j q
   exact acD h w2 hm j q
  rw[hLV]at hs;obtain⟨_,_,a2,_,a4⟩:=hs;have hi:zx k [] w=false:=by
   cases hi:zx k [] w with
   | false=>rfl
   | true=>exact absurd (hz.1 hi) wz
  unfold ac0;rw[hi,if_neg aC];exact⟨hk0,a2,hq0,a4⟩
 have hlen:(ac0 k n m bg fin w k0 q0).length<=900:=by
  by_cases wz:w=bG k []
  ·unfold ac0;rw[hz.2 wz,if_pos rfl];simp
  ·obtain⟨a1,a2,_⟩:=akB wz;omega
 generalize ac0 k n m bg fin w k0 q0=is at*;refine agc (e:=bN k) aw vi em st li lf la start hst cs hcs k n ae bg fin m (by have:=hm.1;omega) (fun a ha=>⟨(hm.2 a ha).2.1.1,(hm.2 a ha).2.2.1⟩) bF (fun j so=>Og k j so)
  (fun j so hj g a ha=>by
   have ga:=(Og.wt h (hm.2 a ha).1).mono (Qr1 j);exact⟨(Lc h ae g ga).2,Og.times h g ga⟩)
  w q0 s hs hsn _ hs0 gs0 is hlen _ cm cb fun js t hc hj hq => ?_
 have htn:=aiP hm.ins hc hsn;have hft:fin[t]?=some (fin.getD t (bG k [])):=getD_at ae;have gft:=zK (z:=bG k []) (Og.zero h 4) (fun x hx=>(Og.wt h (w2 x hx)).mono ae) t;have gaw:=hq.mono (show js.length<=4 by omega);have gu:=Og.times h gaw gft;refine⟨_,_,_,hft,(Lc h ae gaw gft).2,(af_ h ae gu).2,fun hiz => ?_⟩;have pu:=gu.gd;have hle:lq (bT (dG k [])) (bF (awF bF m (bg.getD s (bG k [])) js) (fin.getD t (bG k []))) (bF (bg.getD s (bG k [])) ((abx k n m fin js.length).getD s (bG k []))):=by
  rw[<-acD h w2 hm];exact ahJ O hm.pa hm.ins p2 hc gs0.gd
 have hy:=hall js.length s hsn;have py:Ba (dG k []) (bF (bg.getD s (bG k [])) ((abx k n m fin js.length).getD s (bG k []))):=A.pt gs0.gd (zK (z:=bG k []) (Og.zero h js.length) (wC h w2 hm js.length) s).gd;have huw:=j5 O pu py gw hle hy;have b1:=(uP h (j:=5) ae gu (ow.mono ae)).2;rw[P_ h pu gw huw]at b1;refine⟨b1,_,(uP h (j:=5) ae (ow.mono ae) gu).2,fun hbf hnl => ?_⟩;have hwu:=(akv O hbt gw pu).2 hbf;have alZ:=N9 O pu gw huw hwu;have wz:w≠bG k []:=fun hw0=>by
  rw[alZ,(adH h gw).2 hw0]at hiz;cases hiz
 obtain⟨hk0,hil,hq0,hlex⟩:=akB wz;have hyw:=N9 O py gw hy (by rw[<-alZ];exact hle);rcases hcase with ⟨g,_⟩|⟨_,_,_,_,hmin⟩
 ·exact absurd g wz
 rcases hmin js.length s ae hsn hyw with g|g
 ·injection g with g1 g2
  subst g2;exact⟨ae,.inr ⟨rfl,ag0 (hlex js t hc ae alZ) ae⟩⟩
 ·rcases g with g|⟨g1,g2⟩
  ·have:k0<js.length:=g;omega
  ·have e1:k0=js.length:=g1;have e2:q0<s:=g2;exact⟨ae,.inl e2⟩
end Fi.S
