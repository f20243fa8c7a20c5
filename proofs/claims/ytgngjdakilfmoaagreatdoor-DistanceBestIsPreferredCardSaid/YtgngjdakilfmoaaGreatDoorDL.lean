import Derived.Test.YtgngjdakilfmoaaGreatDoorDG
set_option linter.unusedVariables false
set_option linter.unusedSimpArgs false
noncomputable section
namespace Fi.S
open Go Fi
set_option maxHeartbeats 8000000
set_option maxRecDepth 10000
theorem Io:∀ (n:Nat) (l:List Nat),l.Nodup->(∀ x ∈ l,x<n)->l.length<=n
 | 0,l,_,h=>by
  cases l with
  | nil=>simp
  | cons x r=>have:=h x aC;omega
 | n+1,l,hn,h=>by
  by_cases hm:n ∈ l
  ·have h1:=Io n (l.erase n) (hn.erase n) (fun x hx=>by
    have h2:=h x (List.mem_of_mem_erase hx);have h3:x≠n:=fun he=>hn.not_mem_erase (he ▸ hx)
    omega)
   rw[List.length_erase_of_mem hm]at h1;omega
  ·have h1:=Io n l hn (fun x hx=>by
    have h2:=h x hx;have h3:x≠n:=fun he=>hm (he ▸ hx)
    omega)
   omega
structure aib {α:Type}(P:α->Prop)(pl tm:α->α->α)(z o:α):Prop where
 gm:EW P pl tm z o
 idem:∀ {x},P x->pl x x=x
 top:∀ {x},P x->pl o x=o
section
variable {α:Type} {P:α->Prop} {pl tm:α->α->α} {z o:α}
def lq (pl:α->α->α)(x y:α):Prop:=pl y x=y
variable (O:aib P pl tm z o)
include O
theorem xX {x:α}(hx:P x):lq pl x x:=O.idem hx
theorem j5 {x y w:α}(hx:P x)(hy:P y)(hw:P w)(h1:lq pl x y)(h2:lq pl y w):lq pl x w:=by
 show pl w x=w;rw[<-show pl w y=w from h2,O.gm.assoc hw hy hx,show pl y x=y from h1]
theorem PY {x:α}(hx:P x):lq pl z x:=O.gm.zero hx
theorem Ip {x y:α}(hx:P x)(hy:P y):lq pl x (pl x y):=by
 show pl (pl x y) x=pl x y;rw[O.gm.comm (O.gm.pp hx hy) hx,<-O.gm.assoc hx hx hy,O.idem hx]
theorem K4 {x y:α}(hx:P x)(hy:P y):lq pl y (pl x y):=by
 rw[O.gm.comm hx hy];exact Ip O hy hx
theorem acO {x y u:α}(hx:P x)(hy:P y)(hu:P u)(h1:lq pl x u)(h2:lq pl y u):lq pl (pl x y) u:=by
 show pl u (pl x y)=u;rw[<-O.gm.assoc hu hx hy,show pl u x=u from h1];exact h2
theorem N9 {x y:α}(hx:P x)(hy:P y)(h1:lq pl x y)(h2:lq pl y x):x=y:=by
 rw[<-show pl x y=x from h2,O.gm.comm hx hy];exact h1
theorem aks:∀ {l:List α} {u:α},(∀ x ∈ l,P x)->P u->(∀ x ∈ l,lq pl x u)->lq pl (sm pl z l) u
 | [],u,_,hu,_=>PY O hu
 | x::l,u,h,hu,hl=>by
  rw[jZ O.gm (h x aC) (fun y hy=>h y (by simp[hy]))];exact acO O (h x aC) (zF O.gm fun y hy=>h y (by simp[hy])) hu (hl x aC) (aks (fun y hy=>h y (by simp[hy])) hu fun y hy=>hl y (by simp[hy]))
theorem XK:∀ {l:List α} {x:α},(∀ x ∈ l,P x)->x ∈ l->lq pl x (sm pl z l)
 | y::l,x,h,hx=>by
  have hl:∀ w ∈ l,P w:=fun w hw=>h w (by simp[hw])
  have hy:=h y aC;have hs:=zF O.gm hl;rw[jZ O.gm hy hl];rcases Qi1.1 hx with rfl|hx
  ·exact Ip O hy hs
  ·exact j5 O (hl x hx) hs (O.gm.pp hy hs) (XK hl hx) (K4 O hy hs)
theorem acP {x c:α}(hx:P x)(hc:P c):lq pl (tm x c) x:=by
 show pl x (tm x c)=x;have h1:=O.gm.Xm hx O.gm.po hc;rw[O.top hc,O.gm.abp hx]at h1;exact h1.symm
theorem PZ {x y c:α}(hx:P x)(hy:P y)(hc:P c)(h:lq pl x y):lq pl (tm x c) (tm y c):=by
 show pl (tm y c) (tm x c)=tm y c;rw[<-O.gm.Xn hy hx hc,show pl y x=y from h]
omit O
def flat (l:List (Ar α)):List (Ar α):=l.map fun a=>⟨a.f,0,a.t,a.x⟩
def p_ (pl tm:α->α->α)(z:α)(n:Nat)(l:List (Ar α))(v:List α):List α:=Gs pl tm z n (flat l) 0 v
def hA (tm:α->α->α)(z:α)(v:List α)(q:Nat)(a:Ar α):α:=if a.t.toNat=q then tm (v.getD a.f.toNat z) a.x else z
def j6 (pl tm:α->α->α)(z:α)(n:Nat)(l:List (Ar α))(v:List α):Nat->List α
 | 0=>v
 | k+1=>p_ pl tm z n l (j6 pl tm z n l v k)
def jB (pl tm:α->α->α)(z:α)(n:Nat)(l:List (Ar α))(v:List α):Nat->List α
 | 0=>v
 | k+1=>List.zipWith pl (jB pl tm z n l v k) (j6 pl tm z n l v (k+1))
variable {n:Nat} {l:List (Ar α)} {v:List α}
theorem K5 (hv:v.length=n):∀ k,(j6 pl tm z n l v k).length=n
 | 0=>hv
 | k+1=>zI ..
theorem tN (hv:v.length=n):∀ k,(jB pl tm z n l v k).length=n
 | 0=>hv
 | k+1=>by
  show(List.zipWith pl (jB pl tm z n l v k) (j6 pl tm z n l v (k+1))).length=n;rw[List.length_zipWith,tN hv k,K5 hv (k+1),Nat.min_self]
section gm
variable (A:EW P pl tm z o) (hl:PA P l) (hin:∀ a ∈ l,a.f.toNat<n/\a.t.toNat<n)
include A hl hin
theorem qb {v:List α}(hv:∀ x ∈ v,P x):(∀ x ∈ p_ pl tm z n l v,P x)/\∀ q,q<n->(p_ pl tm z n l v).getD q z=sm pl z (l.map (hA tm z v q)):=by
 have h1:PA P (flat l):=fun a ha=>by
  obtain⟨b,hb,rfl⟩:=Qg1.1 ha;exact hl b hb
 obtain⟨h2,h3⟩:=XI A 0 hv h1 (n:=n) (fun a ha=>by
  obtain⟨b,hb,rfl⟩:=Qg1.1 ha;exact(hin b hb).2)
 refine⟨h2,fun q hq => ?_⟩;rw[show p_ pl tm z n l v=Gs pl tm z n (flat l) 0 v from rfl,h3 q hq];unfold flat;rw[Q2]
 congr 1
 refine Xk2 fun a _ => ?_
 show hSt tm z 0 v q ⟨a.f,0,a.t,a.x⟩=hA tm z v q a;unfold hSt hA;simp
omit hin in
theorem afa {v:List α}(hv:∀ x ∈ v,P x)(q:Nat):∀ y ∈ l.map (hA tm z v q),P y:=fun y hy=>by
 obtain⟨a,ha,rfl⟩:=Qg1.1 hy;unfold hA;split
 ·exact A.pt (b_ A.pz hv _) (hl a ha)
 ·exact A.pz
theorem j_ {v:List α}(hv:∀ x ∈ v,P x):∀ k,∀ x ∈ j6 pl tm z n l v k,P x
 | 0=>hv
 | k+1=>(qb A hl hin (j_ hv k)).1
theorem uM {v:List α}(hv:∀ x ∈ v,P x)(lv:v.length=n):∀ k,(∀ x ∈ jB pl tm z n l v k,P x)/\∀ q,q<n->(jB pl tm z n l v (k+1)).getD q z=pl ((jB pl tm z n l v k).getD q z) ((j6 pl tm z n l v (k+1)).getD q z):=by
 have key:∀ k q,q<n->(jB pl tm z n l v (k+1)).getD q z=pl ((jB pl tm z n l v k).getD q z) ((j6 pl tm z n l v (k+1)).getD q z):=fun k q hq=>by
  have e1:=getD_at (z:=z) (l:=jB pl tm z n l v k) (i:=q) (by rw[tN lv];exact hq);have e2:=getD_at (z:=z) (l:=j6 pl tm z n l v (k+1)) (i:=q) (by rw[K5 lv];exact hq);show(List.zipWith pl (jB pl tm z n l v k) (j6 pl tm z n l v (k+1))).getD q z=_;rw[Qj0,List.getElem?_zipWith,e1,e2];rfl
 intro k;refine⟨?_,key k⟩
 induction k with
 | zero=>exact hv
 | succ k ih =>
  intro x hx;obtain⟨i,hi,rfl⟩:=Xd0 hx;have hin':i<n:=by rw[tN lv]at hi;exact hi
  have:=key k i hin';rw[Qj0,Qa1 hi]at this;simp only[Q12]at this;rw[this];exact A.pp (b_ A.pz ih i) (b_ A.pz (j_ A hl hin hv (k+1)) i)
end gm
inductive XL (tm:α->α->α)(z:α)(n:Nat)(l:List (Ar α))(v:List α):Nat->Nat->α->Prop
 | nil {q:Nat} (h:q<n):XL tm z n l v 0 q (v.getD q z)
 | snoc {k:Nat} {w:α} {a:Ar α} (h:a ∈ l) (g:XL tm z n l v k a.f.toNat w):XL tm z n l v (k+1) a.t.toNat (tm w a.x)
inductive XM (tm:α->α->α)(z:α)(n:Nat)(l:List (Ar α))(v:List α):List Nat->Nat->α->Prop
 | nil {q:Nat} (h:q<n):XM tm z n l v [q] q (v.getD q z)
 | snoc {vs:List Nat} {w:α} {a:Ar α} (h:a ∈ l) (hn:a.t.toNat ∉ vs) (g:XM tm z n l v vs a.f.toNat w):XM tm z n l v (a.t.toNat::vs) a.t.toNat (tm w a.x)
theorem XM.props (hin:∀ a ∈ l,a.f.toNat<n/\a.t.toNat<n){vs:List Nat}{q:Nat}{w:α}(h:XM tm z n l v vs q w):vs.Nodup/\(∀ x ∈ vs,x<n)/\∃ k,vs.length=k+1/\XL tm z n l v k q w:=by
 induction h with
 | @nil q h=>exact⟨aC,fun x hx=>by rw[Qx0.1 hx];exact h,0,rfl,.nil h⟩
 | @snoc vs w a h hn g ih =>
  obtain⟨h1,h2,k,h3,h4⟩:=ih;refine⟨X31.2 ⟨hn,h1⟩,fun x hx => ?_,k+1,by rw[Qf2,h3],.snoc h h4⟩;rcases Qi1.1 hx with rfl|hx
  ·exact(hin a h).2
  ·exact h2 x hx
section ak3
variable (hl:PA P l) (hin:∀ a ∈ l,a.f.toNat<n/\a.t.toNat<n) (hv:∀ x ∈ v,P x)
include O hl hin hv
omit hin in
theorem XM.p {vs:List Nat}{q:Nat}{w:α}(h:XM tm z n l v vs q w):P w:=by
 induction h with
 | nil h=>exact b_ O.gm.pz hv _
 | snoc h _ _ ih=>exact O.gm.pt ih (hl _ h)
omit hin in
theorem XL.p {k q:Nat}{w:α}(h:XL tm z n l v k q w):P w:=by
 induction h with
 | nil h=>exact b_ O.gm.pz hv _
 | snoc h _ ih=>exact O.gm.pt ih (hl _ h)
omit hin in
theorem XM.cut {vs:List Nat}{q:Nat}{w:α}(h:XM tm z n l v vs q w):∀ {t:Nat},t ∈ vs->∃ vs' w',XM tm z n l v vs' t w'/\lq pl w w':=by
 induction h with
 | @nil q h =>
  intro t ht;rw[Qx0.1 ht];exact⟨_,_,.nil h,xX O (b_ O.gm.pz hv _)⟩
 | @snoc vs w a h hn g ih =>
  intro t ht;have pw:=g.p O hl hv;have pa:=hl a h;rcases Qi1.1 ht with rfl|ht
  ·exact⟨_,_,.snoc h hn g,xX O (O.gm.pt pw pa)⟩
  ·obtain⟨vs',w',h1,h2⟩:=ih ht;exact⟨vs',w',h1,j5 O (O.gm.pt pw pa) pw (h1.p O hl hv) (acP O pw pa) h2⟩
omit hin in
theorem XL.simple {k q:Nat}{w:α}(h:XL tm z n l v k q w):∃ vs w',XM tm z n l v vs q w'/\lq pl w w':=by
 induction h with
 | @nil q h=>exact⟨_,_,.nil h,xX O (b_ O.gm.pz hv _)⟩
 | @snoc k w a h g ih =>
  obtain⟨vs,w',h1,h2⟩:=ih;have pw:=g.p O hl hv;have pw':=h1.p O hl hv;have pa:=hl a h
  by_cases ht:a.t.toNat ∈ vs
  ·obtain⟨vs',w'',h3,h4⟩:=h1.cut O hl hv ht;have aic:=h3.p O hl hv;exact⟨vs',w'',h3,j5 O (O.gm.pt pw pa) pw aic (acP O pw pa) (j5 O pw pw' aic h2 h4)⟩
  ·exact⟨_,_,.snoc h ht h1,PZ O pw pw' pa h2⟩
theorem XL.lev {k q:Nat}{w:α}(h:XL tm z n l v k q w):lq pl w ((j6 pl tm z n l v k).getD q z):=by
 induction h with
 | nil h=>exact xX O (b_ O.gm.pz hv _)
 | @snoc k w a h g ih =>
  have hk:=j_ O.gm hl hin hv k;obtain⟨h1,h2⟩:=qb O.gm hl hin hk;have pw:=g.p O hl hv;have pa:=hl a h;have pq:=b_ O.gm.pz hk a.f.toNat;show lq pl (tm w a.x) ((p_ pl tm z n l (j6 pl tm z n l v k)).getD a.t.toNat z);rw[h2 _ (hin a h).2];have hp:=afa O.gm hl hk a.t.toNat;refine j5 O (O.gm.pt pw pa) (O.gm.pt pq pa) (zF O.gm hp) (PZ O pw pq pa ih) (XK O hp (Qg1.2 ⟨a,h,?_⟩));unfold hA;rw[if_pos rfl]
theorem Gt (lv:v.length=n):∀ (k q:Nat) (y u:α),q<n->P y->P u->(∀ w,XL tm z n l v k q w->lq pl (tm w y) u)->lq pl (tm ((j6 pl tm z n l v k).getD q z) y) u
 | 0,q,y,u,hq,_,_,h=>h _ (.nil hq)
 | k+1,q,y,u,hq,hy,hu,h=>by
  have hk:=j_ O.gm hl hin hv k;obtain⟨h1,h2⟩:=qb O.gm hl hin hk;have hp:=afa O.gm hl hk q;show lq pl (tm ((p_ pl tm z n l (j6 pl tm z n l v k)).getD q z) y) u;rw[h2 q hq];have key:∀ l':List α,(∀ x ∈ l',P x)->(∀ x ∈ l',lq pl (tm x y) u)->lq pl (tm (sm pl z l') y) u:=by
   intro l'
   induction l' with
   | nil=>intro _ _;show lq pl (tm z y) u;rw[O.gm.zt hy];exact PY O hu
   | cons x l' ih =>
    intro hp hx;have px:=hp x aC;have pl':∀ w ∈ l',P w:=fun w hw=>hp w (by simp[hw])
    rw[jZ O.gm px pl',O.gm.Xn px (zF O.gm pl') hy];exact acO O (O.gm.pt px hy) (O.gm.pt (zF O.gm pl') hy) hu (hx x aC) (ih pl' fun w hw=>hx w (by simp[hw]))
  refine key _ hp fun x hx => ?_
  obtain⟨a,ha,rfl⟩:=Qg1.1 hx;unfold hA;split
  ·rename_i ht;have pq:=b_ O.gm.pz hk a.f.toNat;have pa:=hl a ha;rw[O.gm.NN pq pa hy];refine Gt lv k a.f.toNat (tm a.x y) u (hin a ha).1 (O.gm.pt pa hy) hu fun w hw => ?_
   rw[<-O.gm.NN (hw.p O hl hv) pa hy];exact h _ (ht ▸ .snoc ha hw)
  ·rw[O.gm.zt hy];exact PY O hu
theorem Iq (lv:v.length=n):∀ (m k q:Nat),k<=m->q<n->lq pl ((j6 pl tm z n l v k).getD q z) ((jB pl tm z n l v m).getD q z)
 | 0,k,q,hk,hq=>by
  obtain rfl:k=0:=ae;exact xX O (b_ O.gm.pz hv _)
 | m+1,k,q,hk,hq=>by
  obtain⟨h1,h2⟩:=uM O.gm hl hin hv lv m;have p1:=b_ O.gm.pz h1 q;have p2:=b_ O.gm.pz (j_ O.gm hl hin hv (m+1)) q;rw[h2 q hq];rcases Qg0 k (m+1) with h|h
  ·exact j5 O (b_ O.gm.pz (j_ O.gm hl hin hv k) q) p1 (O.gm.pp p1 p2) (Iq lv m k q ae hq) (Ip O p1 p2)
  ·obtain rfl:k=m+1:=ae;exact K4 O p1 p2
theorem XN (lv:v.length=n)(k q:Nat)(hq:q<n):lq pl ((j6 pl tm z n l v k).getD q z) ((jB pl tm z n l v (n-1)).getD q z):=by
 have pu:=b_ O.gm.pz ((uM O.gm hl hin hv lv (n-1)).1) q;have pk:=b_ O.gm.pz (j_ O.gm hl hin hv k) q;have:=Gt O hl hin hv lv k q o _ hq O.gm.po pu fun w hw=>by
  have pw:=hw.p O hl hv;rw[O.gm.abp pw];obtain⟨vs,w',h1,h2⟩:=hw.simple O hl hv;obtain⟨g1,g2,m,g3,g4⟩:=h1.props hin;have g5:=Io n vs g1 g2;exact j5 O pw (h1.p O hl hv) pu h2 (j5 O (h1.p O hl hv) (b_ O.gm.pz (j_ O.gm hl hin hv m) q) pu (g4.lev O hl hin hv) (Iq O hl hin hv lv (n-1) m q ae hq))
 rw[O.gm.abp pk]at this;exact this
end ak3
end
end Fi.S
noncomputable section
namespace Fi.S
open Go Fi
set_option maxHeartbeats 8000000
set_option maxRecDepth 10000
section
variable {α:Type} {P:α->Prop} {pl tm:α->α->α} {z o:α} {dS:α->Bool}
def xY (bt:α->α->Bool)(tm:α->α->α)(z:α)(v out:List α)(a:Ar α):List α:=if bt (tm a.x (v.getD a.t.toNat z)) (out.getD a.f.toNat z) then out.set a.f.toNat (tm a.x (v.getD a.t.toNat z)) else out
def Ir (bt:α->α->Bool)(tm:α->α->α)(z:α)(n:Nat)(l:List (Ar α))(v:List α):List α:=l.foldl (xY bt tm z v) (List.replicate n z)
def tO (bt:α->α->Bool)(tm:α->α->α)(z:α)(n:Nat)(l:List (Ar α))(v:List α):Nat->List α
 | 0=>v
 | k+1=>Ir bt tm z n l (tO bt tm z n l v k)
def lV (bt:α->α->Bool)(u v:List α):List α:=List.zipWith (fun w x=>if bt w x then w else x) v u
def XP (bt:α->α->Bool)(tm:α->α->α)(z:α)(n:Nat)(l:List (Ar α))(v:List α):Nat->List α
 | 0=>v
 | k+1=>lV bt (XP bt tm z n l v k) (tO bt tm z n l v (k+1))
variable {bt:α->α->Bool}
theorem K7 (v out:List α)(a:Ar α):(xY bt tm z v out a).length=out.length:=by
 unfold xY;split
 ·simp
 ·rfl
theorem K8 (v:List α):∀ (l:List (Ar α)) (out:List α),(l.foldl (xY bt tm z v) out).length=out.length
 | [],_=>rfl
 | a::l,out=>by rw[Ql1,K8 v l,K7]
theorem K9 (n:Nat)(l:List (Ar α))(v:List α):(Ir bt tm z n l v).length=n:=by unfold Ir;rw[K8,Q61]
section eq
variable (A:EW P pl tm z o) (hb:∀ {x y},P x->P y->(if bt x y then x else y)=pl y x)
include A hb
theorem P5 {v:List α}(hv:∀ x ∈ v,P x){n:Nat}:∀ (l:List (Ar α)) (out:List α),PA P l->(∀ a ∈ l,a.f.toNat<n)->out.length=n->(∀ x ∈ out,P x)->l.foldl (xY bt tm z v) out=(flat (l.map Ar.turn)).foldl (xW pl tm z 0 v) out
 | [],_,_,_,_,_=>rfl
 | a::l,out,hl,hf,hn,ho=>by
  have ha:=hl a aC;have e1:xY bt tm z v out a=xW pl tm z 0 v out ⟨a.t,0,a.f,a.x⟩:=by
   have pv:=b_ A.pz hv a.t.toNat;have po:=b_ A.pz ho a.f.toNat;have h1:=hb (A.pt pv ha) po;unfold xY xW;rw[if_pos rfl,A.Gl ha pv];show _=out.set a.f.toNat (pl (out.getD a.f.toNat z) (tm (v.getD a.t.toNat z) a.x));rw[<-h1];split
   ·rfl
   ·have hlt:a.f.toNat<out.length:=by rw[hn];exact hf a aC
    rw[Qj0,Qa1 hlt];exact(X12 hlt).symm
  rw[Ql1,show flat ((a::l).map Ar.turn)=⟨a.t,0,a.f,a.x⟩::flat (l.map Ar.turn) from rfl,Ql1,e1];exact P5 hv l _ (fun b hb=>hl b (by simp[hb])) (fun b hb=>hf b (by simp[hb])) (by rw[Ej];exact hn) (XG A 0 hv ho (a:=⟨a.t,0,a.f,a.x⟩) ha)
theorem Sj {v:List α}(hv:∀ x ∈ v,P x){n:Nat}{l:List (Ar α)}(hl:PA P l)(hf:∀ a ∈ l,a.f.toNat<n):Ir bt tm z n l v=p_ pl tm z n (l.map Ar.turn) v :=
 P5 A hb hv l _ hl hf Q61 fun x hx=>by rw[Xf2 hx];exact A.pz
end eq
theorem Iu {n:Nat}{l:List (Ar α)}(hin:∀ a ∈ l,a.f.toNat<n/\a.t.toNat<n):∀ a ∈ l.map Ar.turn,a.f.toNat<n/\a.t.toNat<n:=fun a ha=>by
 obtain⟨b,hb,rfl⟩:=Qg1.1 ha;exact⟨(hin b hb).2,(hin b hb).1⟩
theorem Iw {l:List (Ar α)}(hl:PA P l):PA P (l.map Ar.turn):=fun a ha=>by
 obtain⟨b,hb,rfl⟩:=Qg1.1 ha;exact hl b hb
theorem Gu (l:List (Ar α)):(l.map Ar.turn).map Ar.turn=l:=by
 simp[Xp0,Ar.turn]
section eq2
variable (A:EW P pl tm z o) (hb:∀ {x y},P x->P y->(if bt x y then x else y)=pl y x) {n:Nat} {l:List (Ar α)} (hl:PA P l) (hin:∀ a ∈ l,a.f.toNat<n/\a.t.toNat<n) {v:List α} (hv:∀ x ∈ v,P x)
include A hb hl hin hv
theorem XQ:∀ k,tO bt tm z n l v k=j6 pl tm z n (l.map Ar.turn) v k
 | 0=>rfl
 | k+1=>by
  show Ir bt tm z n l (tO bt tm z n l v k)=p_ pl tm z n (l.map Ar.turn) (j6 pl tm z n (l.map Ar.turn) v k);rw[XQ k];exact Sj A hb (j_ A (Iw hl) (Iu hin) hv k) hl fun a ha=>(hin a ha).1
theorem N_ (lv:v.length=n):∀ k,XP bt tm z n l v k=jB pl tm z n (l.map Ar.turn) v k
 | 0=>rfl
 | k+1=>by
  show lV bt (XP bt tm z n l v k) (tO bt tm z n l v (k+1))=List.zipWith pl (jB pl tm z n (l.map Ar.turn) v k) (j6 pl tm z n (l.map Ar.turn) v (k+1));rw[N_ lv k,XQ A hb hl hin hv (k+1)];have p1:=(uM A (Iw hl) (Iu hin) hv lv k).1;have p2:=j_ A (Iw hl) (Iu hin) hv (k+1);have key:∀ (u w:List α),(∀ x ∈ u,P x)->(∀ x ∈ w,P x)->List.zipWith (fun w x=>if bt w x then w else x) w u=List.zipWith pl u w:=by
   intro u
   induction u with
   | nil=>intro w _ _;simp
   | cons x u ih =>
    intro w q1 q2;cases w with
    | nil=>simp
    | cons y w=>rw[List.zipWith_cons_cons,List.zipWith_cons_cons,hb (q2 y aC) (q1 x aC),ih w (fun a ha=>q1 a (by simp[ha])) (fun a ha=>q2 a (by simp[ha]))]
  exact key _ _ p1 p2
end eq2
end
end Fi.S
noncomputable section
namespace Fi.S
open Go Fi
set_option maxHeartbeats 8000000
set_option maxRecDepth 10000
section
variable {α:Type} {P:α->Prop} {pl tm:α->α->α} {z o:α} {dS:α->Bool}
theorem aeE (A:EW P pl tm z o):∀ (n:Nat) {w:List α},(∀ x ∈ w,P x)->N8 pl tm z (List.replicate n z) w=z:=by
 have:∀ (n:Nat) (w:List α),(∀ x ∈ w,P x)->((List.replicate n z).zip w).foldl (fun acc p=>pl acc (tm p.1 p.2)) z=z:=by
  intro n
  induction n with
  | zero=>intro w _;simp
  | succ n ih =>
   intro w h;cases w with
   | nil=>simp
   | cons x w =>
    rw[Xk1,List.zip_cons_cons,Ql1,A.zt (h x aC),A.zero A.pz];exact ih w fun y hy=>h y (Qg2 _ hy)
 exact fun n {w} h=>this n w h
end
end Fi.S
noncomputable section
namespace Fi.S
open Go Fi
set_option maxHeartbeats 8000000
set_option maxRecDepth 10000
section
variable {α:Type} {P:α->Prop} {pl tm:α->α->α} {z o:α} {dS:α->Bool}
def acF (pl tm:α->α->α)(z:α)(s:Int)(v out:List α)(a:Ar α):List α:=if a.l=s then out.set a.f.toNat (pl (out.getD a.f.toNat z) (tm a.x (v.getD a.t.toNat z))) else out
def agd (pl tm:α->α->α)(z:α)(n:Nat)(aJ:List (Ar α))(s:Int)(v:List α):List α:=aJ.foldl (acF pl tm z s v) (List.replicate n z)
theorem ahx (s:Int)(v out:List α)(a:Ar α):(acF pl tm z s v out a).length=out.length:=by unfold acF;split<;>simp
theorem akt {l:List α}(h:∀ x ∈ l,P x){i:Nat}{y:α}(hy:P y):∀ x ∈ l.set i y,P x:=fun x hx=>by
 rcases Q41 hx with g|rfl
 ·exact h x g
 ·exact hy
theorem ahy (A:EW P pl tm z o)(s:Int){v out:List α}(hv:∀ x ∈ v,P x)(ho:∀ x ∈ out,P x){a:Ar α}(ha:P a.x):∀ x ∈ acF pl tm z s v out a,P x:=by
 unfold acF;split
 ·exact akt ho (A.pp (b_ A.pz ho _) (A.pt ha (b_ A.pz hv _)))
 ·exact ho
theorem aku (A:EW P pl tm z o)(s:Int){v:List α}(hv:∀ x ∈ v,P x):∀ (l:List (Ar α)) (out:List α),PA P l->(∀ x ∈ out,P x)->∀ x ∈ l.foldl (acF pl tm z s v) out,P x
 | [],_,_,ho=>ho
 | a::l,out,hl,ho=>aku A s hv l _ (fun b hb=>hl b (Qg2 _ hb)) (ahy A s hv ho (hl a aC))
theorem ahz (A:EW P pl tm z o)(n:Nat):∀ x ∈ List.replicate n z,P x:=fun x hx=>by rw[Xf2 hx];exact A.pz
theorem ajy (A:EW P pl tm z o){l:List (Ar α)}(hl:PA P l)(n:Nat)(s:Int){v:List α}(hv:∀ x ∈ v,P x):∀ x ∈ agd pl tm z n l s v,P x:=aku A s hv l _ hl (ahz A n)
theorem adI (v w:List α):N8 pl tm z v w=sm pl z ((v.zip w).map fun p=>tm p.1 p.2):=by
 unfold N8 sm;rw[List.foldl_map]
theorem age (A:EW P pl tm z o){v w:List α}(hv:∀ x ∈ v,P x)(hw:∀ x ∈ w,P x):∀ y ∈ (v.zip w).map (fun p=>tm p.1 p.2),P y:=fun y hy=>by
 obtain⟨p,hp,rfl⟩:=Qg1.1 hy;obtain⟨h1,h2⟩:=List.of_mem_zip hp;exact A.pt (hv _ h1) (hw _ h2)
theorem aaT (A:EW P pl tm z o){v w:List α}(hv:∀ x ∈ v,P x)(hw:∀ x ∈ w,P x):P (N8 pl tm z v w):=by
 rw[adI];exact zF A (age A hv hw)
theorem ab' (A:EW P pl tm z o){x y:α}{v w:List α}(hx:P x)(hy:P y)(hv:∀ x ∈ v,P x)(hw:∀ x ∈ w,P x):N8 pl tm z (x::v) (y::w)=pl (tm x y) (N8 pl tm z v w):=by
 rw[adI,adI,List.zip_cons_cons,Qe2,jZ A (A.pt hx hy) (age A hv hw)]
theorem afI (A:EW P pl tm z o):∀ {v w:List α},(∀ x ∈ v,P x)->(∀ x ∈ w,P x)->N8 pl tm z v w=N8 pl tm z w v
 | [],[],_,_=>rfl
 | [],_::_,_,_=>rfl
 | _::_,[],_,_=>rfl
 | x::v,y::w,hv,hw=>by
  have hx:=hv x aC;have hy:=hw y aC;have hv':∀ x ∈ v,P x:=fun a ha=>hv a (Qg2 _ ha)
  have hw':∀ x ∈ w,P x:=fun a ha=>hw a (Qg2 _ ha)
  rw[ab' A hx hy hv' hw',ab' A hy hx hw' hv',A.Gl hx hy,afI A hv' hw']
theorem aeN (A:EW P pl tm z o){c:α}(hc:P c):∀ {v w:List α} {i:Nat},(∀ x ∈ v,P x)->(∀ x ∈ w,P x)->i<v.length->v.length=w.length->N8 pl tm z (v.set i (pl (v.getD i z) c)) w=pl (N8 pl tm z v w) (tm c (w.getD i z))
 | [],_,_,_,_,h,_=>by simp at h
 | x::v,[],_,_,_,_,h=>by simp at h
 | x::v,y::w,i,hv,hw,hi,hl=>by
  have hx:=hv x aC;have hy:=hw y aC;have hv':∀ x ∈ v,P x:=fun a ha=>hv a (Qg2 _ ha)
  have hw':∀ x ∈ w,P x:=fun a ha=>hw a (Qg2 _ ha)
  have hd:=aaT A hv' hw';cases i with
  | zero =>
   show N8 pl tm z (pl x c::v) (y::w)=pl _ (tm c y);rw[ab' A (A.pp hx hc) hy hv' hw',ab' A hx hy hv' hw',A.Xn hx hc hy,A.assoc (A.pt hx hy) (A.pt hc hy) hd,A.comm (A.pt hc hy) hd,<-A.assoc (A.pt hx hy) hd (A.pt hc hy)]
  | succ i =>
   have g1:=b_ A.pz hv' i;have ih:=aeN A hc (i:=i) hv' hw' (by simpa using hi) (by simpa using hl);show N8 pl tm z (x::v.set i (pl (v.getD i z) c)) (y::w)=pl _ (tm c (w.getD i z));rw[ab' A hx hy (akt hv' (A.pp g1 hc)) hw',ab' A hx hy hv' hw',ih,A.assoc (A.pt hx hy) hd (A.pt hc (b_ A.pz hw' i))]
def gA (tm:α->α->α)(z:α)(s:Int)(x y:List α)(a:Ar α):α:=if a.l=s then tm (tm (x.getD a.f.toNat z) a.x) (y.getD a.t.toNat z) else z
theorem ajz (A:EW P pl tm z o)(s:Int){x y:List α}(hx:∀ w ∈ x,P w)(hy:∀ w ∈ y,P w){a:Ar α}(ha:P a.x):P (gA tm z s x y a):=by
 unfold gA;split
 ·exact A.pt (A.pt (b_ A.pz hx _) ha) (b_ A.pz hy _)
 ·exact A.pz
variable (A:EW P pl tm z o) {n:Nat} {x y:List α} (hx:∀ w ∈ x,P w) (hy:∀ w ∈ y,P w) (lx:x.length=n) (ly:y.length=n)
include A hx hy lx ly
omit lx in
theorem step_dot (s:Int):∀ (l:List (Ar α)) (out:List α),PA P l->(∀ a ∈ l,a.t.toNat<n)->out.length=n->(∀ w ∈ out,P w) ->
  N8 pl tm z (l.foldl (xW pl tm z s x) out) y=pl (N8 pl tm z out y) (sm pl z (l.map (gA tm z s x y)))
 | [],out,_,_,_,ho=>(A.zero (aaT A ho hy)).symm
 | a::l,out,hl,ht,hn,ho=>by
  have ha:=hl a aC;have hl':PA P l:=fun b hb=>hl b (Qg2 _ hb)
  have ht':∀ b ∈ l,b.t.toNat<n:=fun b hb=>ht b (Qg2 _ hb)
  have ih:=step_dot s l (xW pl tm z s x out a) hl' ht' (by rw[Ej,hn]) (XG A s hx ho ha);have hm:∀ w ∈ l.map (gA tm z s x y),P w:=fun w hw=>by
   obtain⟨b,hb,rfl⟩:=Qg1.1 hw;exact ajz A s hx hy (hl' b hb)
  have pg:=ajz A s hx hy ha;have hd:=aaT A ho hy;rw[Ql1,ih,Qe2,jZ A pg hm,<-A.assoc hd pg (zF A hm)]
  congr 1
  unfold xW gA;split
  ·exact aeN A (A.pt (b_ A.pz hx _) ha) ho hy (by rw[hn];exact ht a aC) ae
  ·exact(A.zero hd).symm
theorem afU (s:Int):∀ (l:List (Ar α)) (out:List α),PA P l->(∀ a ∈ l,a.f.toNat<n)->out.length=n->(∀ w ∈ out,P w) ->
  N8 pl tm z (l.foldl (acF pl tm z s y) out) x=pl (N8 pl tm z out x) (sm pl z (l.map (gA tm z s x y)))
 | [],out,_,_,_,ho=>(A.zero (aaT A ho hx)).symm
 | a::l,out,hl,ht,hn,ho=>by
  have ha:=hl a aC;have hl':PA P l:=fun b hb=>hl b (Qg2 _ hb)
  have ht':∀ b ∈ l,b.f.toNat<n:=fun b hb=>ht b (Qg2 _ hb)
  have ih:=afU s l (acF pl tm z s y out a) hl' ht' (by rw[ahx,hn]) (ahy A s hy ho ha);have hm:∀ w ∈ l.map (gA tm z s x y),P w:=fun w hw=>by
   obtain⟨b,hb,rfl⟩:=Qg1.1 hw;exact ajz A s hx hy (hl' b hb)
  have pg:=ajz A s hx hy ha;have hd:=aaT A ho hx;rw[Ql1,ih,Qe2,jZ A pg hm,<-A.assoc hd pg (zF A hm)]
  congr 1
  unfold acF gA;split
  ·have p1:=b_ A.pz hx a.f.toNat;have p2:=b_ A.pz hy a.t.toNat;rw[aeN A (A.pt ha p2) ho hx (by rw[hn];exact ht a aC) ae,A.Gl (A.pt ha p2) p1,<-A.NN p1 ha p2]
  ·exact(A.zero hd).symm
theorem anc {l:List (Ar α)}(hl:PA P l)(hin:∀ a ∈ l,a.f.toNat<n/\a.t.toNat<n)(s:Int):N8 pl tm z (Gs pl tm z n l s x) y=N8 pl tm z x (agd pl tm z n l s y):=by
 have h1:=step_dot A hx hy ly s l (List.replicate n z) hl (fun a ha=>(hin a ha).2) Q61 (ahz A n);have h2:=afU A hx hy lx ly s l (List.replicate n z) hl (fun a ha=>(hin a ha).1) Q61 (ahz A n);rw[afI A hx (ajy A hl n s hy)];unfold Gs agd;rw[h1,h2,aeE A n hy,aeE A n hx]
omit x lx hx
end
end Fi.S
noncomputable section
namespace Fi.S
open Go Fi
set_option maxHeartbeats 8000000
set_option maxRecDepth 10000
variable {α:Type} {e:α->W}
def fzL:aF:=f1711.body.r.r.l.r.bl.lp
def TK (v:List D)(n:Nat)(out:FV)(j:Nat)(t:FV)(L:List ah):St :=
 (st0 [.u,.d (.s 8 v),rL 0,.u,out,.u,.u,dI n,dI j,t,.u,.u,.u,.u,.u] L)
def abF (bx:ah)(z:W)(j:Nat)(out:FV)(L:List ah):Prop:=(j=0/\out=.d (.n 8)/\L=[bx])\/(0<j/\out=.ls (.loc 1) (j-1) 8 0 j/\L=[bx,.row (j-1) 8 (List.replicate j z.d)])
theorem XR (kk:Int)(ps:List Int)(sy st:Int)(bg fin es v:List D)(z:W)(n j:Nat)(hn:n<=1000000)(hj:j<n)(out:FV)(L:List ah)(ho:abF (bu kk ps sy st bg fin es) z j out L)(hz:Ca E1 26 [.d (aU kk ps)] (.d z.d,none)) :
  ∃ out' L',Ex E1 fzL (TK v n out j .u L) (.norm,TK v n out' (j+1) .u L')/\abF (bu kk ps sy st bg fin es) z (j+1) out' L':=by
 obtain⟨N,t⟩:=hz.get;have hjn:(j:Int)<(n:Int):=ae;have aW:ak .i64 ((j:Int)+1)=(j:Int)+1:=wrap_i64 ae;have hk1:((j+1:Nat):Int)=(j:Int)+1:=ae;obtain⟨s,l1,l2,c,b,u,p,q,ez⟩:=z.aH;have hrep:List.replicate (j+1) z.d=List.replicate j z.d++[z.d]:=List.replicate_succ';rcases ho with ⟨rfl,rfl,rfl⟩|⟨h0,rfl,rfl⟩
 ·have hn0:0<n:=hj;refine⟨.ls (.loc 1) 0 8 0 1,[bu kk ps sy st bg fin es,.row 0 8 [z.d]],Ex.of (n:=N+100) ?_,.inr ⟨ae,rfl,rfl⟩⟩;unfold TK;rw[hk1];rw[ez]at t ⊢;unfold bu aU wD at*;generalize LK .i64 ps=l9 at*;simp[fzL,f1711,t,hjn,hn0,aW,TG,most]
 ·refine⟨.ls (.loc 1) j 8 0 (j+1),[bu kk ps sy st bg fin es,.row j 8 (List.replicate j z.d++[z.d])],Ex.of (n:=N+100) ?_,.inr ⟨ae,by rw[Qw2],by rw[Qw2,hrep]⟩⟩;unfold TK;rw[hk1];have hl:(List.replicate j z.d).length=j:=Q61;have m1:(j+1)*128<=most:=by unfold most;omega
  have m2:j+1<=most:=by unfold most;omega
  have hv:j-1+1=j:=ae;generalize List.replicate j z.d=es' at*;rw[ez]at t ⊢;have tk:es'.take j=es':=by rw[<-hl,Qk0]
  unfold bu aU wD at*;simp[fzL,f1711,t,hjn,aW,m1,m2,hl,hv,tk]
def fnL:aF:=f1711.body.r.r.r.l.r.bl.lp
def Sk (es v:List D)(av n j:Nat)(t:FV)(L:List ah):St :=
 (st0 [.u,.d (.s 8 v),rL 0,.u,.ls (.loc 1) av 8 0 n,.u,.u,.u,.u,.u,.d (.s 11 es),dI es.length,dI j,t,.u] L)
theorem XT (kk:Int)(ps:List Int)(sy st:Int)(bg fin:List D)(aJ:List (Ar α))(hn:aJ.length<=1000000)(v:List α)(av n j:Nat)(L:List ah)(a:Ar α)(ha:aJ[j]?=some a)(f t:Nat)(hf:a.f=(f:Int))(ht:a.t=(t:Int))
  (h0:L[0]?=some (bu kk ps sy st bg fin (aJ.map (Ar.d e)))) (R:List α) (hR:R.length=n) (h1:L[1]?=some (.row av 8 (R.map fun x=>(e x).d))) (vt rf p:α) (hvt:v[t]?=some vt) (hrf:R[f]?=some rf) (bt:Bool)
  (c1:Ca E1 13 [.d (aU kk ps),.d (e a.x).d,.d (e vt).d] (.d (e p).d,none)) (c2:Ca E1 24 [.d (aU kk ps),.d (e p).d,.d (e rf).d] (dB bt,none)) :
  Ex E1 fnL (Sk (aJ.map (Ar.d e)) (v.map fun x=>(e x).d) av n j .u L) (.norm,Sk (aJ.map (Ar.d e)) (v.map fun x=>(e x).d) av n (j+1) .u ((if bt then L.set 1 (.row av 8 ((R.set f p).map fun x=>(e x).d)) else L)++[acJ e a,Ik (e p)])):=by
 have hj:j<aJ.length:=(aT ha)
 have hj0:(0:Int)<=(j:Int):=ae;have hjl:(j:Int)<(aJ.length:Int):=ae;have aW:ak .i64 ((j:Int)+1)=(j:Int)+1:=wrap_i64 ae;have hk1:((j+1:Nat):Int)=(j:Int)+1:=ae;have e1:(aJ.map (Ar.d e))[j]?=some (a.d e):=by simp[ha]
 have hel:(aJ.map (Ar.d e)).length=aJ.length:=aC;have e2:(v.map fun x=>(e x).d)[t]?=some (e vt).d:=by simp[hvt]
 have e3:(R.map fun x=>(e x).d)[f]?=some (e rf).d:=by simp[hrf]
 have f0:(0:Int)<=(f:Int):=ae;have t0:(0:Int)<=(t:Int):=ae;have fR:f<R.length:=(aT hrf)
 have tn:(f:Int)<(n:Int):=ae;have l0:0<L.length:=(aT h0)
 have l1:1<L.length:=(aT h1)
 have g0:∀ X,(L++X)[0]?=some (bu kk ps sy st bg fin (aJ.map (Ar.d e))):=fun X=>by rw[Qa0 l0];exact h0
 have g1:∀ X,(L++X)[1]?=some (.row av 8 (R.map fun x=>(e x).d)):=fun X=>by rw[Qa0 l1];exact h1
 have sA:∀ b b':ah,(L++[b]).set L.length b'=L++[b']:=fun b b'=>by simp
 have hg:∀ b:ah,∀ X,(L++b::X)[L.length]?=some b:=fun b X=>by simp
 have sB:∀ c b b':ah,(L++[c,b]).set (L.length+1) b'=L++[c,b']:=fun c b b'=>by simp
 have hg2:∀ c b:ah,(L++[c,b])[L.length+1]?=some b:=fun c b=>by simp
 have s1:∀ X r,(L++X).set 1 r=L.set 1 r++X:=fun X r=>Qq2 _ _ l1
 obtain⟨K,hK,t1,t2⟩:=(c1.j c2.any).at 0;rw[Q51];obtain⟨as',w1,w3,ac,ab,au,ap,aq,ew,ed⟩:=a.iA e;obtain⟨vs,Hz,HV,vc,vb,vu,vp,vq,evt⟩:=(e vt).aH;obtain⟨rs,rl1,rl2,rc,rb,ru,rp,rq,erf⟩:=(e rf).aH;obtain⟨ps',pl1,RA,pc,pb,pu,pp,pq,ep⟩:=(e p).aH;unfold acJ Ik;rw[ed]at e1 ⊢;rw[hf,ht]at e1 ⊢;rw[evt]at e2 t1;rw[erf]at e3 t2;rw[ew]at t1;rw[ep]at t1 t2 ⊢;clear ew ed evt erf ep c1 c2 hK;unfold bu rV aU wD at*;simp only[D.cells,Qe2,Qc2];generalize aJ.map (Ar.d e)=x3 at*;generalize hRd:(R.map fun x=>(e x).d)=rd at*;have hrl:rd.length=n:=by rw[<-hRd];simpa using hR
 clear hRd;generalize (v.map fun x=>(e x).d)=vd at*;have i1:=idx e1;have jJ:j<x3.length:=(aT e1)
 have i2:=idx e2;have i3:=idx e3;have q2:t<vd.length:=(aT e2)
 have q3:f<rd.length:=(aT e3)
 have i4:=fun X=>idx (g0 X)
 have i5:=fun X=>idx (g1 X)
 have i6:=idx h0;refine Ex.of (n:=K+400) ?_;unfold Sk;rw[hk1];cases bt<;>simp (maxSteps:=400000) [fnL,f1711,hj0,hjl,jJ,hel,aW,f0,t0,tn,t1,t2,e1,e2,e3,i1,i2,i3,i4,i5,i6,q2,q3,g0,g1,h0,h1,hg,hg2,sA,sB,s1,l0,l1]
theorem abG (es v:List D)(av n:Nat)(L:List ah):Ex E1 fnL (Sk es v av n es.length .u L) (.exit 2,Sk es v av n es.length (dB false) L):=by
 apply e6;unfold Sk;simp[fnL,f1711]
theorem Oa (kk:Int)(ps:List Int)(sy:Int)(n:Nat)(hn:n<=100000)(hn0:0<n)(bg fin:List D)(aJ:List (Ar α))(ha:aJ.length<=100000)(hin:∀ a ∈ aJ,(0<=a.f/\a.f<n)/\(0<=a.t/\a.t<n))(v:List α)(hv:v.length=n)(bt:α->α->Bool)(tm:α->α->α)(z:α)(hz:Ca E1 26 [.d (aU kk ps)] (.d (e z).d,none))
  (hc:∀ (j:Nat) (a:Ar α),aJ[j]?=some a->Ca E1 13 [.d (aU kk ps),.d (e a.x).d,.d (e (v.getD a.t.toNat z)).d] (.d (e (tm a.x (v.getD a.t.toNat z))).d,none) /\
   Ca E1 24 [.d (aU kk ps),.d (e (tm a.x (v.getD a.t.toNat z))).d,.d (e (((aJ.take j).foldl (xY bt tm z v) (List.replicate n z)).getD a.f.toNat z)).d] (dB (bt (tm a.x (v.getD a.t.toNat z)) (((aJ.take j).foldl (xY bt tm z v) (List.replicate n z)).getD a.f.toNat z)),none)) :
  Ca E1 1711 [.d (jh kk ps sy n bg fin (aJ.map (Ar.d e))),.d (.s 8 (v.map fun x=>(e x).d))] (.d (.s 8 ((Ir bt tm z n aJ v).map fun x=>(e x).d)),none):=by
 obtain⟨bx,hbx⟩:∃ bx,bx=bu kk ps sy n bg fin (aJ.map (Ar.d e)):=⟨_,rfl⟩
 have hvl:(v.map fun x=>(e x).d).length=n:=by rw[Qj1,hv]
 obtain⟨r0,k1,out,L1,k2,k3⟩:=Ex.inv (E:=E1) (b:=fzL) (fun a:Nat × FV × List ah=>TK (v.map fun x=>(e x).d) n a.2.1 a.1 .u a.2.2) (fun a=>n-a.1) (fun a=>a.1<=n/\abF bx (e z) a.1 a.2.1 a.2.2) (fun r=>∃ out L,r=(.exit 0,TK (v.map fun x=>(e x).d) n out n (dB false) L)/\abF bx (e z) n out L) (fun a ⟨g0,g1⟩=>by
  obtain⟨j,out,L⟩:=a;simp only at g0 g1 ⊢;rcases Qg0 j n with h|h
  ·obtain⟨out',L',k1,k2⟩:=XR kk ps sy n bg fin (aJ.map (Ar.d e)) (v.map fun x=>(e x).d) (e z) n j ae h out L (hbx ▸ g1) hz;exact .inl ⟨(j+1,out',L'),k1,by simp only;omega,by simp only;omega,hbx ▸ k2⟩
  ·obtain rfl:j=n:=ae;refine .inr ⟨_,Ex.of (n:=60) (r:=(.exit 0,TK (v.map fun x=>(e x).d) j out j (dB false) L)) ?_,aC,out,L,rfl,g1⟩;unfold TK;simp[fzL,f1711]) (0,.d (.n 8),[bx]) ⟨Qr1 _,.inl ⟨rfl,rfl,rfl⟩⟩
 subst k2;rcases k3 with ⟨h,_⟩|⟨_,rfl,rfl⟩
 ·omega
 obtain⟨r,h1,L,h2,q0,q1⟩:=Ex.fold (E:=E1) (b:=fnL) aJ (xY bt tm z v) (List.replicate n z)
  (fun j acc st=>acc.length=n/\∃ L,st=Sk (aJ.map (Ar.d e)) (v.map fun x=>(e x).d) (n-1) n j .u L/\L[0]?=some bx/\L[1]?=some (.row (n-1) 8 (acc.map fun x=>(e x).d)))
  (fun acc r=>∃ L,r=(.exit 2,Sk (aJ.map (Ar.d e)) (v.map fun x=>(e x).d) (n-1) n aJ.length (dB false) L)/\L[0]?=some bx/\L[1]?=some (.row (n-1) 8 (acc.map fun x=>(e x).d)))
  (fun j a st hj ⟨g0,L,hst,g1,g2⟩=>by
   subst hst;obtain⟨⟨a1,a2⟩,a3,a4⟩:=hin a (Qa2 hj);have k:=XT (e:=e) kk ps sy n bg fin aJ ae v (n-1) n j L a hj a.f.toNat a.t.toNat ae ae (hbx ▸ g1) _ g0 g2 _ _ _ (getD_at (z:=z) ae) (getD_at (z:=z) ae) _ (hc j a hj).1 (hc j a hj).2;have l2:1<L.length:=(aT g2)
   refine⟨_,k,by rw[K7];exact g0,_,rfl,?_,?_⟩
   ·split
    ·rw[Qa0 (by simp;omega),Qb2 ae];exact g1
    ·rw[Qa0 ae];exact g1
   ·unfold xY;split
    ·rw[Qa0 (by simpa using l2),Qd1 l2]
    ·rw[Qa0 l2];exact g2)
  (fun st ⟨g0,L,hst,g1,g2⟩=>by
   subst hst;have:=abG (aJ.map (Ar.d e)) (v.map fun x=>(e x).d) (n-1) n L;rw[show(aJ.map (Ar.d e)).length=aJ.length by simp]at this;exact⟨_,this,aC,L,rfl,g1,g2⟩)
  (st:=Sk (aJ.map (Ar.d e)) (v.map fun x=>(e x).d) (n-1) n 0 .u [bx,.row (n-1) 8 (List.replicate n (e z).d)]) ⟨Q61,_,rfl,rfl,by simp[List.map_replicate]⟩
 subst h2
 change L[1]?=some (.row (n-1) 8 ((Ir bt tm z n aJ v).map fun x=>(e x).d)) at q1
 have hsl:((Ir bt tm z n aJ v).map fun x=>(e x).d).length=n:=by rw[Qj1,K9]
 generalize (Ir bt tm z n aJ v).map (fun x=>(e x).d)=rs at*;generalize (v.map fun x=>(e x).d)=vd at*;clear hc;have sA:Ex E1 f1711.body.l (st0 (.d (jh kk ps sy n bg fin (aJ.map (Ar.d e)))::.d (.s 8 vd)::EZ) []) (.norm,(st0 (.u::.d (.s 8 vd)::rL 0::EY) [bx])):=by
  apply e6;clear k1 h1;rw[hbx];unfold jh bu;simp[f1711]
 have sB := nx sA f1711.body.r.l (st0 (.u::.d (.s 8 vd)::rL 0::.u::.d (.n 8)::rT) [bx]) (by
  apply e6;clear k1 h1;simp[f1711])
 have sC := nx sB f1711.body.r.r.l.l (TK vd n (.d (.n 8)) 0 .u [bx]) (by
  apply e6;clear k1 h1;unfold TK;rw[show((0:Nat):Int)=0 from rfl];simp[f1711,hvl])
 have sD:Ex E1 f1711.body.r.r.r.l.l (TK vd n (.ls (.loc 1) (n-1) 8 0 n) n (dB false) [bx,.row (n-1) 8 (List.replicate n (e z).d)]) (.norm,Sk (aJ.map (Ar.d e)) vd (n-1) n 0 .u [bx,.row (n-1) 8 (List.replicate n (e z).d)]):=by
  apply e6;clear k1 h1;rw[hbx];unfold TK Sk bu;rw[show((0:Nat):Int)=0 from rfl];generalize aJ.map (Ar.d e)=x3 at*;simp[f1711]
 have sE:∃ st',Ex E1 f1711.body.r.r.r.r (Sk (aJ.map (Ar.d e)) vd (n-1) n aJ.length (dB false) L) (.ret,st')/\finish f1711 st'=some (.d (.s 8 rs),none):=by
  clear h1 k1 sA sB sC sD;have l2:1<L.length:=(aT q1)
  have i2:=idx q1;have tk:rs.take n=rs:=by rw[<-hsl,Qk0]
  refine⟨_,Ex.of (n:=60) (by unfold Sk;simp[f1711];rfl),?_⟩;simp[finish,fD,show f1711.res=[.var 3] from rfl,show f1711.ref=false from rfl,q1,i2,l2,tk,ah.view,hsl]
 obtain⟨st',e1,e2⟩:=sE;exact Ca.body (o:=.ret) rfl (aO 1711 f1711:E1.fn _=_) rfl (sA.seq (sB.seq ((Ex.seq sC (Ex.block k1)).seq ((Ex.seq sD (Ex.block h1)).seq e1)))) aC e2
end Fi.S
noncomputable section
namespace Fi.S
open Go Fi
set_option maxHeartbeats 8000000
set_option maxRecDepth 10000
def lvL:aF:=f1712.body.r.r.l.bl.lp
def TL (av m:Nat)(t:FV)(L:List ah):St:=(st0 [.u,rL 0,.u,.ls (.loc 1) av 1 0 m,t] L)
theorem XU (kk:Int)(ps:List Int)(sy:Int)(n:Nat)(bg fin es:List D)(hn:n<=1000)(ls:List D)(m av:Nat)(hm:ls.length=m+1)(x y:List D)(hl:m+1<n)(hx:ls[m]?=some (.s 8 x))(L:List ah)
  (h0:L[0]?=some (bu kk ps sy n bg fin es)) (h1:L[1]?=some (.row av 1 ls)) (hc:Ca E1 1711 [.d (jh kk ps sy n bg fin es),.d (.s 8 x)] (.d (.s 8 y),none)) :
  Ex E1 lvL (TL av (m+1) .u L) (.norm,TL (av+1) (m+2) .u (L.set 1 (.row (av+1) 1 (ls++[.s 8 y]))++[.row 0 1 [.s 8 y]])):=by
 obtain⟨N,t⟩:=hc.get;have hln:((m+1:Nat):Int)<(n:Int):=ae;have hw:ak .i64 (((m+1:Nat):Int)-1)=(m:Int):=by rw[wrap_i64 ae];omega
 have hp:(0:Int)<=(m:Int):=ae;have hp2:(m:Int)<((m+1:Nat):Int):=ae;have hx2:=idx hx;have hq:m<ls.length:=ae;have m1:(m+1+1)*24<=most:=by unfold most;omega
 have m2:m+1+1<=most:=by unfold most;omega
 have tk:ls.take (m+1)=ls:=by rw[<-hm,Qk0]
 have l0:0<L.length:=(aT h0)
 have l1:1<L.length:=(aT h1)
 have g0:∀ X,(L++X)[0]?=some (bu kk ps sy n bg fin es):=fun X=>by rw[Qa0 l0];exact h0
 have g1:∀ X,(L++X)[1]?=some (.row av 1 ls):=fun X=>by rw[Qa0 l1];exact h1
 have hg:∀ b:ah,∀ X,(L++b::X)[L.length]?=some b:=fun b X=>by simp
 have s1:∀ X r,(L++X).set 1 r=L.set 1 r++X:=fun X r=>Qq2 _ _ l1
 refine Ex.of (n:=N+100) ?_;unfold TL;unfold jh at t;unfold bu at*;generalize hmm:m+1=mm at*;have hv:m+2=mm+1:=ae;rw[hv];have i1:=fun X=>idx (g1 X)
 have i0:=fun X=>idx (g0 X)
 have j0:=idx h0;have j1:=idx h1;have ig:=fun b X=>idx (hg b X)
 simp[ajw,lvL,f1712,t,hln,hw,hp,hp2,hx,hx2,hq,m1,m2,tk,h0,h1,g0,g1,hg,s1,l0,l1,hm,i0,i1,j0,j1,ig,ah.view]
theorem abH (kk:Int)(ps:List Int)(sy:Int)(n:Nat)(bg fin es:List D)(av:Nat)(L:List ah)(h0:L[0]?=some (bu kk ps sy n bg fin es)) :
  Ex E1 lvL (TL av n .u L) (.exit 0,TL av n (dB false) L):=by
 have j0:=idx h0;have l0:0<L.length:=(aT h0)
 apply e6;unfold TL;unfold bu at*;simp[ajw,lvL,f1712,h0,j0,l0]
theorem Sl (kk:Int)(ps:List Int)(sy:Int)(n:Nat)(hn:n<=1000)(hn0:0<n)(bg es:List D)(F:Nat->List D)
  (hc:∀ k,k+1<n->Ca E1 1711 [.d (jh kk ps sy n bg (F 0) es),.d (.s 8 (F k))] (.d (.s 8 (F (k+1))),none)) :
  Ca E1 1712 [.d (jh kk ps sy n bg (F 0) es)] (.d (.s 1 ((List.range n).map fun k=>.s 8 (F k))),none):=by
 obtain⟨bx,hbx⟩:∃ bx,bx=bu kk ps sy n bg (F 0) es:=⟨_,rfl⟩
 have hls:∀ m,((List.range m).map fun k=>D.s 8 (F k)).length=m:=fun m=>by simp
 obtain⟨r,k1,L,k2,k3,k4⟩:=Ex.inv (E:=E1) (b:=lvL) (fun a:Nat × List ah=>TL a.1 (a.1+1) .u a.2) (fun a=>n-a.1) (fun a=>a.1+1<=n/\a.2[0]?=some bx/\a.2[1]?=some (.row a.1 1 ((List.range (a.1+1)).map fun k=>.s 8 (F k))))
  (fun r=>∃ L,r=(.exit 0,TL (n-1) n (dB false) L)/\L[0]?=some bx/\L[1]?=some (.row (n-1) 1 ((List.range n).map fun k=>.s 8 (F k)))) (fun a ⟨g0,g1,g2⟩=>by
  obtain⟨m,L⟩:=a;simp only at g0 g1 g2 ⊢;have l1:1<L.length:=(aT g2)
  rcases Qg0 (m+1) n with h|h
  ·have k:=XU kk ps sy n bg (F 0) es hn _ m m (hls (m+1)) (F m) (F (m+1)) h aC L (hbx ▸ g1) g2 (hc m h);refine .inl ⟨(m+1,_),k,by simp only;omega,by simp only;omega,?_,?_⟩
   ·rw[Qa0 (by simp;omega),Qb2 ae];exact g1
   ·have e2:((List.range (m+1+1)).map fun k=>D.s 8 (F k))=((List.range (m+1)).map fun k=>D.s 8 (F k))++[.s 8 (F (m+1))]:=by rw[Xt1,Qn0];rfl
    rw[Qa0 (by simpa using l1),Qd1 l1];simp only[e2]
  ·obtain rfl:n=m+1:=ae;exact .inr ⟨_,abH kk ps sy (m+1) bg (F 0) es m L (hbx ▸ g1),aC,L,rfl,g1,g2⟩) (0,[bx,.row 0 1 [.s 8 (F 0)]]) ⟨by simp only;omega,rfl,rfl⟩
 subst k2;clear hc;have sA:Ex E1 f1712.body.l (st0 (.d (jh kk ps sy n bg (F 0) es)::wW) []) (.norm,(st0 (.u::rL 0::u3K) [bx])):=by
  apply e6;clear k1;rw[hbx];unfold jh bu;simp[ajw,f1712]
 have sB := nx sA f1712.body.r.l (TL 0 1 .u [bx,.row 0 1 [.s 8 (F 0)]]) (by
  apply e6;clear k1;rw[hbx];unfold bu TL;simp[ajw,f1712])
 have sE:∃ st',Ex E1 f1712.body.r.r.r (TL (n-1) n (dB false) L) (.ret,st')/\finish f1712 st'=some (.d (.s 1 ((List.range n).map fun k=>.s 8 (F k))),none):=by
  clear k1 sA sB;have l2:1<L.length:=(aT k4)
  have hl:=hls n;generalize ((List.range n).map fun k=>D.s 8 (F k))=rs at*;have i2:=idx k4;have tk:rs.take n=rs:=by rw[<-hl,Qk0]
  refine⟨_,Ex.of (n:=60) (by unfold TL;simp[ajw,f1712];rfl),?_⟩;simp[finish,fD,show f1712.res=[.var 2] from rfl,show f1712.ref=false from rfl,k4,i2,l2,tk,ah.view,hl]
 obtain⟨st',e1,e2⟩:=sE;exact Ca.body (o:=.ret) rfl (aO 1712 f1712:E1.fn _=_) rfl (sA.seq (sB.seq ((Ex.block k1).seq e1))) aC e2
end Fi.S
noncomputable section
namespace Fi.S
open Go Fi
set_option maxHeartbeats 8000000
set_option maxRecDepth 10000
variable {α:Type} {e:α->W}
def Iy:aF:=f1713.body.r.r.l.r.bl.lp
def TM:aF:=Iy.r.r.l.bl.r.r.bl.lp
def BJ (lss row:List D)(n k i:Nat)(out:FV)(t:FV)(L:List ah):St :=
 (st0 [.u,rL 0,.u,out,.u,.u,.u,.d (.s 1 lss),dI n,dI k,.u,.d (.s 8 row),dI n,dI i,t,.u,.u] L)
theorem XV (kk:Int)(ps:List Int)(sy st:Int)(bg fin es:List D)(lss:List D)(n:Nat)(hn:0<n)(row:List α)(w z:α)(hw:row[0]?=some w)(hz:Ca E1 26 [.d (aU kk ps)] (.d (e z).d,none))
  (hp:Ca E1 14 [.d (aU kk ps),.d (e w).d,.d (e z).d] (.d (e w).d,none)) :
  Ex E1 TM (BJ lss (row.map fun x=>(e x).d) n 0 0 (.d (.n 8)) .u [bu kk ps sy st bg fin es])
   (.norm,BJ lss (row.map fun x=>(e x).d) n 0 1 (.ls (.loc 2) 0 8 0 1) .u [bu kk ps sy st bg fin es,Ik (e w),.row 0 8 [(e w).d]]):=by
 obtain⟨K,hK,t1,t2⟩:=(hz.j hp.any).at 0;have e1:(row.map fun x=>(e x).d)[0]?=some (e w).d:=by simp[hw]
 generalize (row.map fun x=>(e x).d)=rd at*;have i1:=idx e1;have q1:0<rd.length:=(aT e1)
 obtain⟨vs,Hz,HV,vc,vb,vu,vp,vq,ew⟩:=(e w).aH;obtain⟨zs,wS,wT,zc,zb,zu,zp,zq,ez⟩:=(e z).aH;refine Ex.of (n:=K+300) ?_;unfold BJ Ik;rw[ew]at e1 i1 t2 ⊢;rw[ez]at t1 t2;clear ew ez hw hp hz hK;unfold bu aU wD at*;simp only[D.cells,Qe2,Qc2];simp (maxSteps:=400000) [TM,Iy,f1713,t1,t2,hn,e1,i1,q1,TG,most]
theorem XW (kk:Int)(ps:List Int)(sy st:Int)(bg fin es:List D)(lss:List D)(n i:Nat)(hi:i<n)(hi0:0<i)(hn:n<=100000)(row:List α)(w z:α)(hw:row[i]?=some w)(hz:Ca E1 26 [.d (aU kk ps)] (.d (e z).d,none))
  (hp:Ca E1 14 [.d (aU kk ps),.d (e w).d,.d (e z).d] (.d (e w).d,none)) (R:List D) (hR:R.length=i) (L:List ah) (h0:L[0]?=some (bu kk ps sy st bg fin es)) (h2:L[2]?=some (.row (i-1) 8 R)) :
  Ex E1 TM (BJ lss (row.map fun x=>(e x).d) n 0 i (.ls (.loc 2) (i-1) 8 0 i) .u L)
   (.norm,BJ lss (row.map fun x=>(e x).d) n 0 (i+1) (.ls (.loc 2) i 8 0 (i+1)) .u (L.set 2 (.row i 8 (R++[(e w).d]))++[Ik (e w)])):=by
 obtain⟨K,hK,t1,t2⟩:=(hz.j hp.any).at 0;have e1:(row.map fun x=>(e x).d)[i]?=some (e w).d:=by simp[hw]
 generalize (row.map fun x=>(e x).d)=rd at*;have i1:=idx e1;have q1:i<rd.length:=(aT e1)
 have hi1:(0:Int)<=(i:Int):=ae;have hin:(i:Int)<(n:Int):=ae;have aW:ak .i64 ((i:Int)+1)=(i:Int)+1:=wrap_i64 ae;have hk1:((i+1:Nat):Int)=(i:Int)+1:=ae;have m1:(i+1)*128<=most:=by unfold most;omega
 have m2:i+1<=most:=by unfold most;omega
 have hv:i-1+1=i:=ae;have tk:R.take i=R:=by rw[<-hR,Qk0]
 have l0:0<L.length:=(aT h0)
 have l2:2<L.length:=(aT h2)
 have g0:∀ X,(L++X)[0]?=some (bu kk ps sy st bg fin es):=fun X=>by rw[Qa0 l0];exact h0
 have g2:∀ X,(L++X)[2]?=some (.row (i-1) 8 R):=fun X=>by rw[Qa0 l2];exact h2
 have hg:∀ b:ah,∀ X,(L++b::X)[L.length]?=some b:=fun b X=>by simp
 have sA:∀ b b':ah,(L++[b]).set L.length b'=L++[b']:=fun b b'=>by simp
 have s2:∀ X r,(L++X).set 2 r=L.set 2 r++X:=fun X r=>Qq2 _ _ l2
 obtain⟨vs,Hz,HV,vc,vb,vu,vp,vq,ew⟩:=(e w).aH;obtain⟨zs,wS,wT,zc,zb,zu,zp,zq,ez⟩:=(e z).aH;refine Ex.of (n:=K+300) ?_;unfold BJ Ik;rw[hk1];rw[ew]at e1 i1 t2 ⊢;rw[ez]at t1 t2;clear ew ez hw hp hz hK;unfold bu aU wD at*;simp only[D.cells,Qe2,Qc2];have i0:=fun X=>idx (g0 X)
 have i2:=fun X=>idx (g2 X)
 have ig:=fun b X=>idx (hg b X)
 simp (maxSteps:=400000) [TM,Iy,f1713,t1,t2,hi1,hin,aW,e1,i1,q1,m1,m2,hv,tk,hR,g0,g2,hg,sA,s2,l0,l2,i0,i2,ig,ah.view]
theorem XX (kk:Int)(ps:List Int)(sy st:Int)(bg fin es:List D)(lss:List D)(n k i av:Nat)(hi:i<n)(hn:n<=100000)(row R:List α)(hR:R.length=n)(w r z:α)(hw:row[i]?=some w)(hr:R[i]?=some r)(b:Bool)(hz:Ca E1 26 [.d (aU kk ps)] (.d (e z).d,none))
  (hp:Ca E1 14 [.d (aU kk ps),.d (e w).d,.d (e z).d] (.d (e w).d,none)) (hb:Ca E1 24 [.d (aU kk ps),.d (e w).d,.d (e r).d] (dB b,none)) (L:List ah) (h0:L[0]?=some (bu kk ps sy st bg fin es)) (h2:L[2]?=some (.row av 8 (R.map fun x=>(e x).d))) :
  Ex E1 TM (BJ lss (row.map fun x=>(e x).d) n k i (.ls (.loc 2) av 8 0 n) .u L)
   (.norm,BJ lss (row.map fun x=>(e x).d) n k (i+1) (.ls (.loc 2) av 8 0 n) .u ((if b then L.set 2 (.row av 8 ((R.set i w).map fun x=>(e x).d)) else L)++[Ik (e w)])):=by
 obtain⟨K,hK,t1,t2,t3⟩:=(hz.j (hp.j hb.any)).at 0;have e1:(row.map fun x=>(e x).d)[i]?=some (e w).d:=by simp[hw]
 have e2:(R.map fun x=>(e x).d)[i]?=some (e r).d:=by simp[hr]
 rw[Q51];generalize (row.map fun x=>(e x).d)=rd at*;generalize hRd:(R.map fun x=>(e x).d)=Rd at*;have hrl:Rd.length=n:=by rw[<-hRd];simpa using hR
 clear hRd;have i1:=idx e1;have i2:=idx e2;have q1:i<rd.length:=(aT e1)
 have q2:i<Rd.length:=(aT e2)
 have hi1:(0:Int)<=(i:Int):=ae;have hin:(i:Int)<(n:Int):=ae;have hne:¬ ((i:Int)=(n:Int)):=ae;have hne2:((i:Int)==(n:Int))=false:=by simpa using hne
 have aW:ak .i64 ((i:Int)+1)=(i:Int)+1:=wrap_i64 ae;have hk1:((i+1:Nat):Int)=(i:Int)+1:=ae;have l0:0<L.length:=(aT h0)
 have l2:2<L.length:=(aT h2)
 have g0:∀ X,(L++X)[0]?=some (bu kk ps sy st bg fin es):=fun X=>by rw[Qa0 l0];exact h0
 have g2:∀ X,(L++X)[2]?=some (.row av 8 Rd):=fun X=>by rw[Qa0 l2];exact h2
 have hg:∀ b:ah,∀ X,(L++b::X)[L.length]?=some b:=fun b X=>by simp
 have sA:∀ b b':ah,(L++[b]).set L.length b'=L++[b']:=fun b b'=>by simp
 have s2:∀ X r,(L++X).set 2 r=L.set 2 r++X:=fun X r=>Qq2 _ _ l2
 obtain⟨vs,Hz,HV,vc,vb,vu,vp,vq,ew⟩:=(e w).aH;obtain⟨zs,wS,wT,zc,zb,zu,zp,zq,ez⟩:=(e z).aH;obtain⟨rs,rl1,rl2,rc,rb,ru,rp,rq,er⟩:=(e r).aH;refine Ex.of (n:=K+400) ?_;unfold BJ Ik;rw[hk1];rw[ew]at e1 i1 t2 t3 ⊢;rw[ez]at t1 t2;rw[er]at e2 i2 t3;clear ew ez er hw hp hz hK hb hr;unfold bu aU wD at*;simp only[D.cells,Qe2,Qc2];have i0:=fun X=>idx (g0 X)
 have i3:=fun X=>idx (g2 X)
 have ig:=fun b X=>idx (hg b X)
 cases b<;>simp (maxSteps:=400000) [TM,Iy,f1713,t1,t2,t3,hi1,hin,hne,hne2,aW,e1,i1,e2,i2,q1,q2,hrl,g0,g2,hg,sA,s2,l0,l2,i0,i3,ig,ah.view]
theorem P6 (lss row:List D)(n k:Nat)(out:FV)(L:List ah):Ex E1 TM (BJ lss row n k n out .u L) (.exit 2,BJ lss row n k n out (dB false) L):=by
 apply e6;unfold BJ;simp[TM,Iy,f1713]
def Iz (lss:List D)(n k:Nat)(out:FV)(t:FV)(L:List ah):St :=
 (st0 (.u::rL 0::.u::out::.u::.u::.u::.d (.s 1 lss)::dI n::dI k::t::uV) L)
theorem K_ (lss row:List D)(n k:Nat)(hn:n<=100000)(hk:k<n)(hrow:lss[k]?=some (.s 8 row))(hl:row.length=n)(out out':FV)(L L':List ah)
  (h:Ex E1 (.loop TM) (BJ lss row n k 0 out .u L) (.exit 2,BJ lss row n k n out' (dB false) L')):Ex E1 Iy (Iz lss n k out .u L) (.norm,Iz lss n (k+1) out' .u L'):=by
 have hkn:(k:Int)<(n:Int):=ae;have hk0:(0:Int)<=(k:Int):=ae;have aW:ak .i64 ((k:Int)+1)=(k:Int)+1:=wrap_i64 ae;have hk1:((k+1:Nat):Int)=(k:Int)+1:=ae;have i1:=idx hrow;have q1:k<lss.length:=(aT hrow)
 have s1:Ex E1 Iy.l (Iz lss n k out .u L) (.norm,Iz lss n k out (dB true) L):=by
  apply e6;unfold Iz;clear h;simp[Iy,f1713,hkn]
 have s2 := nx s1 Iy.r.l (Iz lss n k out (dB true) L) (by
  apply e6;unfold Iz;clear h;simp[Iy,f1713])
 have s3 := nx s2 Iy.r.r.l.bl.l (st0 (.u::rL 0::.u::out::.d (.s 8 row)::.u::.u::.d (.s 1 lss)::dI n::dI k::rX) L) (by
  apply e6;unfold Iz;clear h;simp[Iy,f1713,hk0,hrow,i1,q1])
 have s4 := nx s3 Iy.r.r.l.bl.r.l (BJ lss row n k 0 out .u L) (by
  apply e6;unfold BJ;rw[show((0:Nat):Int)=0 from rfl];clear h;simp[Iy,f1713,hl])
 have s5:Ex E1 Iy.r.r.r (BJ lss row n k n out' (dB false) L') (.norm,Iz lss n (k+1) out' .u L'):=by
  apply e6;unfold BJ Iz;rw[hk1];clear h;simp[Iy,f1713,aW]
 exact s1.seq (s2.seq ((Ex.eZ (s3.seq (s4.seq (Ex.block h)))).seq s5))
theorem abI (lss:List D)(n:Nat)(out:FV)(L:List ah):Ex E1 Iy (Iz lss n n out .u L) (.exit 0,Iz lss n n out (dB false) L):=by
 apply e6;unfold Iz;simp[Iy,f1713]
section mix
variable {bt:α->α->Bool}
def mix (bt:α->α->Bool)(u v:List α)(i:Nat):List α:=(lV bt u v).take i++u.drop i
theorem qc {u v:List α}{n:Nat}(hu:u.length=n)(hv:v.length=n):(lV bt u v).length=n:=by unfold lV;rw[List.length_zipWith,hu,hv,Nat.min_self]
theorem abJ {u v:List α}{n i:Nat}(hu:u.length=n)(hv:v.length=n)(hi:i<=n):(mix bt u v i).length=n:=by
 unfold mix;rw[Qb0,Qq0,Xb1,qc hu hv,hu];omega
theorem afc {u v:List α}{n i:Nat}{r:α}(hu:u.length=n)(hv:v.length=n)(hr:u[i]?=some r):(mix bt u v i)[i]?=some r:=by
 have hi:i<u.length:=(aT hr)
 have hl:((lV bt u v).take i).length=i:=by rw[Qq0,qc hu hv];omega
 unfold mix;rw[Qc0 ae,hl,Xi0,Qx2,Q52];exact hr
theorem XY {u v:List α}{n i:Nat}{w r:α}(hu:u.length=n)(hv:v.length=n)(hw:v[i]?=some w)(hr:u[i]?=some r):(if bt w r then(mix bt u v i).set i w else mix bt u v i)=mix bt u v (i+1):=by
 have hi:i<u.length:=(aT hr)
 have hl:((lV bt u v).take i).length=i:=by rw[Qq0,qc hu hv];omega
 have hj:(lV bt u v)[i]?=some (if bt w r then w else r):=by
  unfold lV;rw[List.getElem?_zipWith,hw,hr]
 have hd:u.drop i=r::u.drop (i+1):=by rw[Qj2 hi];congr 1;exact Qy0 ((Qa1 hi).symm.trans hr)
 have ht:(lV bt u v).take (i+1)=(lV bt u v).take i++[if bt w r then w else r]:=by rw[Qz0,hj];rfl
 unfold mix;rw[hd,ht,Qm2,Q00 _ _ ae,hl,Xi0];cases bt w r<;>rfl
end mix
def PB (V:Nat->List α)(bt:α->α->Bool):Nat->List α
 | 0=>V 0
 | k+1=>lV bt (PB V bt k) (V (k+1))
theorem Ob {V:Nat->List α}{bt:α->α->Bool}{n:Nat}(hV:∀ k,(V k).length=n):∀ k,(PB V bt k).length=n
 | 0=>hV 0
 | k+1=>qc (Ob hV k) (hV (k+1))
theorem abK (kk:Int)(ps:List Int)(sy:Int)(n:Nat)(hn:n<=100000)(hn0:0<n)(bg fin es:List D)(V:Nat->List α)(hV:∀ k,(V k).length=n)(bt:α->α->Bool)(z:α)
  (hc:Ca E1 1712 [.d (jh kk ps sy n bg fin es)] (.d (.s 1 ((List.range n).map fun k=>.s 8 ((V k).map fun x=>(e x).d))),none)) (hz:Ca E1 26 [.d (aU kk ps)] (.d (e z).d,none))
  (hp:∀ k,k<n->∀ w ∈ V k,Ca E1 14 [.d (aU kk ps),.d (e w).d,.d (e z).d] (.d (e w).d,none))
  (hb:∀ (k i:Nat) (w r:α),k+1<n->(V (k+1))[i]?=some w->(PB V bt k)[i]?=some r->Ca E1 24 [.d (aU kk ps),.d (e w).d,.d (e r).d] (dB (bt w r),none)) :
  Ca E1 1713 [.d (jh kk ps sy n bg fin es)] (.d (.s 8 ((PB V bt (n-1)).map fun x=>(e x).d)),none):=by
 obtain⟨bx,hbx⟩:∃ bx,bx=bu kk ps sy n bg fin es:=⟨_,rfl⟩
 obtain⟨lss,abL⟩:∃ lss,lss=(List.range n).map fun k=>D.s 8 ((V k).map fun x=>(e x).d):=⟨_,rfl⟩
 have hrow:∀ k,k<n->lss[k]?=some (.s 8 ((V k).map fun x=>(e x).d)):=fun k hk=>by rw[abL];simp[hk]
 have hll:lss.length=n:=by rw[abL];simp
 have hrl:∀ k,((V k).map fun x=>(e x).d).length=n:=fun k=>by rw[Qj1,hV]
 rw[<-abL]at hc;clear abL
 -- the first pass
 obtain⟨L1,p1,p2,p3⟩:∃ L1,Ex E1 (.loop TM) (BJ lss ((V 0).map fun x=>(e x).d) n 0 0 (.d (.n 8)) .u [bx]) (.exit 2,BJ lss ((V 0).map fun x=>(e x).d) n 0 n (.ls (.loc 2) (n-1) 8 0 n) (dB false) L1)/\L1[0]?=some bx/\L1[2]?=some (.row (n-1) 8 ((V 0).map fun x=>(e x).d)):=by
  have a0:(V 0)[0]?=some ((V 0).getD 0 z):=getD_at (by rw[hV];exact hn0);have f:=XV (e:=e) kk ps sy n bg fin es lss n hn0 (V 0) _ z a0 hz (hp 0 hn0 _ (Qa2 a0));obtain⟨r,k1,L,k2,k3,k4⟩:=Ex.inv (E:=E1) (b:=TM) (fun a:Nat × List ah=>BJ lss ((V 0).map fun x=>(e x).d) n 0 a.1 (.ls (.loc 2) (a.1-1) 8 0 a.1) .u a.2) (fun a=>n-a.1) (fun a=>0<a.1/\a.1<=n/\a.2[0]?=some bx/\a.2[2]?=some (.row (a.1-1) 8 (((V 0).map fun x=>(e x).d).take a.1)))
   (fun r=>∃ L,r=(.exit 2,BJ lss ((V 0).map fun x=>(e x).d) n 0 n (.ls (.loc 2) (n-1) 8 0 n) (dB false) L)/\L[0]?=some bx/\L[2]?=some (.row (n-1) 8 ((V 0).map fun x=>(e x).d))) (fun a ⟨g0,g1,g2,g3⟩=>by
   obtain⟨i,L⟩:=a;simp only at g0 g1 g2 g3 ⊢;have l2:2<L.length:=(aT g3)
   rcases Qg0 i n with h|h
   ·have ai:(V 0)[i]?=some ((V 0).getD i z):=getD_at (by rw[hV];exact h);have k:=XW (e:=e) kk ps sy n bg fin es lss n i h g0 hn (V 0) _ z ai hz (hp 0 hn0 _ (Qa2 ai)) _ (by rw[Qq0,hrl];omega) L (hbx ▸ g2) g3;refine .inl ⟨(i+1,_),k,by simp only;omega,by simp only;omega,by simp only;omega,?_,?_⟩
    ·rw[Qa0 (by simp;omega),Qb2 ae];exact g2
    ·rw[Qa0 (by simpa using l2),Qd1 l2,Qz0,Qb1,ai];rfl
   ·obtain rfl:i=n:=ae;rw[Qe1 (by rw[hrl];omega)]at g3;exact .inr ⟨_,P6 lss _ i 0 _ L,aC,L,rfl,g2,g3⟩) (1,[bx,Ik (e ((V 0).getD 0 z)),.row 0 8 [(e ((V 0).getD 0 z)).d]]) ⟨aC,hn0,rfl,by
     have:(((V 0).map fun x=>(e x).d).take 1)=[(e ((V 0).getD 0 z)).d]:=by rw[Qz0,Qb1,a0];rfl
     simp only[this];rfl⟩
  subst k2;rw[<-hbx]at f;exact⟨L,f.next k1,k3,k4⟩
 -- all passes
 obtain⟨r,k1,L,k2,k3,k4⟩:=Ex.inv (E:=E1) (b:=Iy) (fun a:Nat × List ah=>Iz lss n a.1 (.ls (.loc 2) (n-1) 8 0 n) .u a.2) (fun a=>n-a.1) (fun a=>0<a.1/\a.1<=n/\a.2[0]?=some bx/\a.2[2]?=some (.row (n-1) 8 ((PB V bt (a.1-1)).map fun x=>(e x).d)))
  (fun r=>∃ L,r=(.exit 0,Iz lss n n (.ls (.loc 2) (n-1) 8 0 n) (dB false) L)/\L[0]?=some bx/\L[2]?=some (.row (n-1) 8 ((PB V bt (n-1)).map fun x=>(e x).d))) (fun a ⟨g0,g1,g2,g3⟩=>by
  obtain⟨k,L⟩:=a;simp only at g0 g1 g2 g3 ⊢;rcases Qg0 k n with h|h
  ·obtain⟨k,rfl⟩:∃ m,k=m+1:=⟨k-1,ae⟩
   rw[Qw2]at g3;have hu:=Ob (bt:=bt) hV k;obtain⟨r,j1,L',j2,j3,j4⟩:=Ex.inv (E:=E1) (b:=TM) (fun a:Nat × List ah=>BJ lss ((V (k+1)).map fun x=>(e x).d) n (k+1) a.1 (.ls (.loc 2) (n-1) 8 0 n) .u a.2) (fun a=>n-a.1) (fun a=>a.1<=n/\a.2[0]?=some bx/\a.2[2]?=some (.row (n-1) 8 ((mix bt (PB V bt k) (V (k+1)) a.1).map fun x=>(e x).d)))
    (fun r=>∃ L,r=(.exit 2,BJ lss ((V (k+1)).map fun x=>(e x).d) n (k+1) n (.ls (.loc 2) (n-1) 8 0 n) (dB false) L)/\L[0]?=some bx/\L[2]?=some (.row (n-1) 8 ((PB V bt (k+1)).map fun x=>(e x).d))) (fun a ⟨q0,q1,q2⟩=>by
    obtain⟨i,L⟩:=a;simp only at q0 q1 q2 ⊢;have l2:2<L.length:=(aT q2)
    rcases Qg0 i n with h'|h'
    ·have ai:(V (k+1))[i]?=some ((V (k+1)).getD i z):=getD_at (by rw[hV];exact h');have ar:(PB V bt k)[i]?=some ((PB V bt k).getD i z):=getD_at (by rw[hu];exact h');have kk':=XX (e:=e) kk ps sy n bg fin es lss n (k+1) i (n-1) h' hn (V (k+1)) _ (abJ (bt:=bt) hu (hV (k+1)) (by omega:i<=n)) _ _ z ai (afc hu (hV (k+1)) ar) _ hz (hp (k+1) h _ (Qa2 ai)) (hb k i _ _ h ai ar) L (hbx ▸ q1) q2;refine .inl ⟨(i+1,_),kk',by simp only;omega,by simp only;omega,?_,?_⟩
     ·split
      ·rw[Qa0 (by simp;omega),Qb2 ae];exact q1
      ·rw[Qa0 ae];exact q1
     ·have hm:=XY (bt:=bt) hu (hV (k+1)) ai ar;split
      ·rename_i hbt;rw[if_pos hbt]at hm;rw[Qa0 (by simpa using l2),Qd1 l2,hm]
      ·rename_i hbt;rw[if_neg hbt]at hm;rw[Qa0 l2,q2,hm]
    ·obtain rfl:i=n:=ae;have hm:mix bt (PB V bt k) (V (k+1)) i=PB V bt (k+1):=by
      unfold mix;rw[Qe1 (by rw[qc hu (hV (k+1))];omega),Xn0 ae,Q10];rfl
     rw[hm]at q2;exact .inr ⟨_,P6 lss _ i (k+1) _ L,aC,L,rfl,q1,q2⟩) (0,L) ⟨Qr1 _,g2,by
      have:mix bt (PB V bt k) (V (k+1)) 0=PB V bt k:=by unfold mix;simp
      simp only[this];exact g3⟩
   subst j2;exact .inl ⟨(k+2,L'),K_ lss _ n (k+1) hn h (hrow (k+1) h) (hrl (k+1)) _ _ _ _ j1,by simp only;omega,by simp only;omega,by simp only;omega,j3,j4⟩
  ·obtain rfl:k=n:=ae;exact .inr ⟨_,abI lss k _ L,aC,L,rfl,g2,g3⟩) (1,L1) ⟨aC,hn0,p2,p3⟩
 subst k2;have k0:=(K_ lss _ n 0 hn hn0 (hrow 0 hn0) (hrl 0) _ _ _ _ p1).next k1
 clear p1 k1 hb hp hz;obtain⟨N,t⟩:=hc.get;clear hc hrow;have sA:Ex E1 f1713.body.l (st0 (.d (jh kk ps sy n bg fin es)::Ze) []) (.norm,(st0 (.u::rL 0::TS) [bx])):=by
  apply e6;clear k0 t;rw[hbx];unfold jh bu;simp[f1713]
 have sB := nx sA f1713.body.r.l (st0 (.u::rL 0::.u::.d (.n 8)::EZ) [bx]) (by
  apply e6;clear k0 t;simp[f1713])
 have sC := nx sB f1713.body.r.r.l.l (Iz lss n 0 (.d (.n 8)) .u [bx]) (by
  refine Ex.of (n:=N+60) ?_;clear k0;rw[hbx];unfold Iz;rw[show((0:Nat):Int)=0 from rfl];unfold jh at t;unfold bu;simp[f1713,t,hll])
 have sE:∃ st',Ex E1 f1713.body.r.r.r (Iz lss n n (.ls (.loc 2) (n-1) 8 0 n) (dB false) L) (.ret,st')/\finish f1713 st'=some (.d (.s 8 ((PB V bt (n-1)).map fun x=>(e x).d)),none):=by
  clear k0 sA sB sC;have l2:2<L.length:=(aT k4)
  have hl:((PB V bt (n-1)).map fun x=>(e x).d).length=n:=by rw[Qj1,Ob hV]
  generalize (PB V bt (n-1)).map (fun x=>(e x).d)=rs at*;have i2:=idx k4;have tk:rs.take n=rs:=by rw[<-hl,Qk0]
  refine⟨_,Ex.of (n:=60) (by unfold Iz;simp[f1713];rfl),?_⟩;simp[finish,fD,show f1713.res=[.var 2] from rfl,show f1713.ref=false from rfl,k4,i2,l2,tk,ah.view,hl]
 obtain⟨st',e1,e2⟩:=sE;exact Ca.body (o:=.ret) rfl (aO 1713 f1713:E1.fn _=_) rfl (sA.seq (sB.seq ((Ex.seq sC (Ex.block k0)).seq e1))) aC e2
end Fi.S
noncomputable section
namespace Fi.S
open Go Fi
set_option maxHeartbeats 8000000
set_option maxRecDepth 10000
section
variable {kk:Int} {ps:List Int} (hk:kk=2\/kk=3) {sy st:Int} {bg fin es IA fin' es':List D}
include hk
theorem La (h:Ca E1 1024 [.d (jh kk ps sy st bg fin es)] (.d (.t [jh kk ps sy st IA fin' es',vI 0]),none)) :
  Ca E1 1710 [.d (jh kk ps sy st bg fin es)] (.d (.t [jh kk ps sy st IA fin' es',vI 0]),none):=by
 obtain⟨N,t⟩:=h.get;refine Ca.bQ (n:=N+200) ?_;rw[aA rfl (aO 1710 f1710:E1.fn _=_) rfl];unfold jh at*;rcases hk with rfl|rfl<;>simp[f1710,t,rH]
theorem Fp (h:Ca E1 1024 [.d (jh kk ps sy st bg fin es)] (.d (.t [jh kk ps sy st IA fin' es',vI 0]),none)){vs:List D}(h2:Ca E1 1713 [.d (jh kk ps sy st IA fin' es')] (.d (.s 8 vs),none)) :
  Ca E1 1714 [.d (jh kk ps sy st bg fin es)] (.d (.t [.s 8 vs,vI 0]),none):=by
 obtain⟨K,hK,t1,t2⟩:=((La hk h).j h2.any).at 0;refine Ca.bQ (n:=K+200) ?_;rw[aA rfl (aO 1714 f1714:E1.fn _=_) rfl];clear h h2 hK;unfold jh at*;simp[f1714,t1,t2,rH]
theorem XZ (h:Ca E1 1024 [.d (jh kk ps sy st bg fin es)] (.d (.t [jh kk ps sy st IA fin' es',vI 0]),none)){i2 f2 e2:List D}(h1:Ca E1 1508 [.d (jh kk ps sy st IA fin' es')] (.d (jh kk ps sy st i2 f2 e2),none))
  {vs:List D} (h2:Ca E1 1713 [.d (jh kk ps sy st i2 f2 e2)] (.d (.s 8 vs),none)) :
  Ca E1 1715 [.d (jh kk ps sy st bg fin es)] (.d (.t [.s 8 vs,vI 0]),none):=by
 obtain⟨K,hK,t1,t2,t3⟩:=((La hk h).j (h1.j h2.any)).at 0;refine Ca.bQ (n:=K+200) ?_;rw[aA rfl (aO 1715 f1715:E1.fn _=_) rfl];clear h h1 h2 hK;unfold jh at*;simp[f1715,t1,t2,t3,rH]
end
set_option maxHeartbeats 1000000
section
def Pv (l:List aS):Prop:=∃ S,1<=S/\PV S l
theorem PV.pv {S:Nat}{l:List aS}(h:PV S l):Pv l:=⟨S+1,ae,h.mono ae⟩
theorem Pv.two {a b:List aS}(ha:Pv a)(hb:Pv b):∃ S,1<=S/\PV S a/\PV S b:=by
 obtain⟨S,h1,h2⟩:=ha;obtain⟨T,g1,g2⟩:=hb;exact⟨S+T,ae,h2.mono ae,g2.mono ae⟩
theorem Pv.add {a b:List aS}(ha:Pv a)(hb:Pv b):Pv (fK a b):=by
 obtain⟨S,h,ha,hb⟩:=ha.two hb;exact(gI h h ha hb).pv
theorem Pv.mul {a b:List aS}(ha:Pv a)(hb:Pv b):Pv (dM a b):=by
 obtain⟨S,h,ha,hb⟩:=ha.two hb;exact(gU h ha hb).pv
theorem Pv.const (x:Rat):Pv (bM x):=(jK (Qd2 _)).pv
theorem Pv.ext {a b:List aS}(ha:Pv a)(hb:Pv b)(h:∀ e,tot a e=tot b e):a=b:=by
 obtain⟨S,_,ha,hb⟩:=ha.two hb;exact PV.ext ha hb h
theorem Pv.comm {a b:List aS}(ha:Pv a)(hb:Pv b):dM a b=dM b a:=by
 obtain⟨S,h,ha,hb⟩:=ha.two hb;exact Ga h ha hb
theorem Pv.assoc {a b c:List aS}(ha:Pv a)(hb:Pv b)(hc:Pv c):dM (dM a b) c=dM a (dM b c):=by
 obtain⟨S,h,ha,hb⟩:=ha.two hb;obtain⟨T,g,hc⟩:=hc;exact DI (S:=S+T) ae (ha.mono ae) (hb.mono ae) (hc.mono ae)
theorem Pv.Xm {a b c:List aS}(ha:Pv a)(hb:Pv b)(hc:Pv c):dM a (fK b c)=fK (dM a b) (dM a c):=by
 obtain⟨S,h,ha,hb⟩:=ha.two hb;obtain⟨T,g,hc⟩:=hc;exact Kv (S:=S+T) ae (ha.mono ae) (hb.mono ae) (hc.mono ae)
theorem ahA (x:Rat)(e:fV):tot (bM x) e=if e=(0,0,0) then x else 0:=by
 unfold bM
 by_cases h:x=0
 ·rw[if_pos h,h];simp[tot]
 ·rw[if_neg h];simp only[tot]
  by_cases h2:e=(0,0,0)
  ·subst h2;simp;grind
  ·rw[if_neg (fun h3=>h2 h3.symm),if_neg h2];grind
def afd (p:List aS):Rat:=tot p (0,0,0)
def Lb (p:List aS):List aS:=fK p (bM (-afd p))
def tQ (p:List aS)(t:Rat):List aS:=dM (Lb p) (bM t)
def pwP (t:Rat)(n:List aS):Nat->List aS
 | 0=>bM t
 | k+1=>dM (pwP t n k) n
def soP (t:Rat)(n:List aS):Nat->List aS
 | 0=>bM t
 | k+1=>fK (soP t n k) (pwP t n (k+1))
def rO (p:List aS):Rat:=1 / (1-afd p)
theorem X0 (p:List aS)(e:fV):tot (Lb p) e=if e=(0,0,0) then 0 else tot p e:=by
 unfold Lb;rw[jy,ahA]
 by_cases h:e=(0,0,0)
 ·subst h;simp only[if_true,afd];grind
 ·simp only[if_neg h];grind
section law
variable {p:List aS} (hp:Pv p)
include hp
theorem BK:Pv (Lb p):=hp.add (Pv.const _)
theorem P7 (t:Rat):Pv (tQ p t):=(BK hp).mul (Pv.const _)
theorem acQ (t:Rat):∀ k,Pv (pwP t (tQ p t) k)
 | 0=>Pv.const _
 | k+1=>(acQ t k).mul (P7 hp t)
end law
def Dg (k:Int)(l:List aS):Prop:=∀ p ∈ l,k<=p.1.1+p.1.2.1+p.1.2.2
theorem P8 {a:List aS}(ha:Pv a){p:aS}(hp:p ∈ a):tot a p.1≠0:=by
 obtain⟨S,_,ha⟩:=ha;rw[uH (jw ha.M7) hp];exact ha.nz p hp
theorem Dg.mul {j k:Int}{a b:List aS}(ha:Pv a)(hb:Pv b)(h1:Dg j a)(h2:Dg k b):Dg (j+k) (dM a b):=by
 intro p hp;have h:=P8 (ha.mul hb) hp;rw[tq]at h
 by_cases he:∃ x ∈ dK a b,x.1=p.1
 ·obtain⟨x,hx,hxe⟩:=he;obtain⟨y,hy,hx⟩:=Xk0.1 hx;obtain⟨z,hz,rfl⟩:=Qg1.1 (Q31.1 hx).1;have g1:=h1 y hy;have g2:=h2 z hz;rw[<-hxe];simp only[dz];omega
 ·exact absurd (jT fun x hx hxe=>he ⟨x,hx,hxe⟩) h
theorem Dg.const (x:Rat):Dg 0 (bM x):=by
 intro p hp;unfold bM at hp;split at hp
 ·cases hp
 ·rw[Qx0]at hp;subst hp;simp
theorem Dg.rest {p:List aS}(hp:Pv p):Dg 1 (Lb p):=by
 intro x hx;have h1:=P8 (BK hp) hx;rw[X0]at h1;obtain⟨S,_,hr⟩:=BK hp;have h2:=dh (hr.fits x hx)
 by_cases h:x.1=(0,0,0)
 ·rw[if_pos h]at h1;exact absurd rfl h1
 ·by_cases h3:x.1.1+x.1.2.1+x.1.2.2<1
  ·exact absurd (show x.1=(0,0,0) by
    obtain⟨⟨a,b,c⟩,y⟩:=x;simp only[Qm0]at*;omega) h
  ·omega
theorem Dg.pw {p:List aS}(hp:Pv p)(t:Rat):∀ k:Nat,Dg k (pwP t (tQ p t) k)
 | 0=>Dg.const t
 | k+1=>by
  have h1:Dg 1 (tQ p t):=by
   have:=Dg.mul (BK hp) (Pv.const t) (Dg.rest hp) (Dg.const t);show Dg 1 (dM _ _);simpa using this
  have:=Dg.mul (acQ hp t k) (P7 hp t) (Dg.pw hp t k) h1;show Dg ((k+1:Nat):Int) (dM _ _);simpa using this
theorem Dg.nil {l:List aS}(hl:Pv l)(h:Dg 6 l):l=[]:=by
 obtain⟨S,_,hl⟩:=hl;cases l with
 | nil=>rfl
 | cons x r =>
  have h1:=h x (Qi2 ..);have h2:=dh (hl.fits x (Qi2 ..));omega
end
set_option maxHeartbeats 8000000
structure anD (T:Nat)(p:List aS):Prop where
 step:PV T (tQ p (rO p))
 pw:∀ k,k<=6->PV T (pwP (rO p) (tQ p (rO p)) k)
 so:∀ k,k<=6->PV T (soP (rO p) (tQ p (rO p)) k)
 h1:∀ k,k<6->(pwP (rO p) (tQ p (rO p)) k).length*((tQ p (rO p)).length*(2*T+1))<=50000
 h2:∀ k,k<6->(soP (rO p) (tQ p (rO p)) k++pwP (rO p) (tQ p (rO p)) (k+1)).length*(T+1)<=50000
set_option maxHeartbeats 1000000
set_option maxHeartbeats 8000000
def uN (k:Int):Sv->Sv->Bool
 | .c i n,.c j m=>jd i n j m
 | .q x,.q y=>k==3&&decide (y<x)
 | _,_=>false
def P9 (k:Int):Nat:=if k=2 then 126 else if k=3 then 136 else 118
theorem AL {k:Int}(hk:single k=true)(v w x y:W)(b:Bool)(hv:Ca E1 41 [.d (aU k []),.d v.d] (.d x.d,none))(hw:Ca E1 41 [.d (aU k []),.d w.d] (.d y.d,none))(h:Ca E1 (P9 k) [.d x.d,.d y.d] (dB b,none)):Ca E1 24 [.d (aU k []),.d v.d,.d w.d] (dB b,none):=by
 obtain⟨K,hK,t1,t2,t42,t⟩:=(hv.j (hw.j ((BB hk).j h.any))).at 500;have t31:=fun m=>dC (xK (sv1 hk) 0) (show 0+500<=K+m by omega)
 obtain⟨vs,Hz,HV,vc,vb,vu,vp,Rp,ev⟩:=v.aH;obtain⟨ws,TC,TD,wc,wb,wu,wp,TE,ew⟩:=w.aH;obtain⟨xs,Y6,Y7,xc,xb,xu,xp,xps,ex⟩:=x.aH;obtain⟨ys,TA,TB,yc,yb,yu,yp,yps,ey⟩:=y.aH;simp only[ev,ew,ex,ey]at t1 t2 t ⊢;clear ev ew ex ey hK hv hw h;refine Ca.bQ (n:=K+100) ?_;rw[aA rfl (aO 24 f24:E1.fn _=_) rfl];unfold wD aU at*;simp only[show LK .i64 []=[] from rfl]at*;rcases aN hk with rfl|rfl|rfl|rfl|rfl
 all_goals
  simp[P9,tu,oP,A8,qF,nA,oQ,qG,nC,oU,qH,nD,oV,oO]at t42 t;simp[f24,t31,t1,t2,t42,t,FV.az,FV.aP,FV.shift,FV.gD,ah.shift,ah.az]
theorem IB (v w:W)(x y:Rat)(hx:qz x<=100000)(hy:qz y<=100000)(tx:Ca E1 53 [.d (aU 3 []),.d v.d] (.d (Sv.q x).w.d,none))(ty:Ca E1 53 [.d (aU 3 []),.d w.d] (.d (Sv.q y).w.d,none)):Ca E1 25 [.d (aU 3 []),.d v.d,.d w.d] (dB (decide (y<x)),none):=by
 have tv:=Ca.gM (Ca.bQ (fJ 0 3 []));rw[show aM 3 []=true from rfl]at tv;obtain⟨K,hK,a0,a1,a2,a3⟩:=((tv).j ((tx).j ((ty).j ((Ca.gM (Cq y x hy hx)).any)))).at 0;obtain⟨vs,Hz,HV,vc,vb,vu,vp,Rp,ev⟩:=v.aH;obtain⟨ws,TC,TD,wc,wb,wu,wp,TE,ew⟩:=w.aH;simp only[ev,ew]at a1 a2 ⊢;clear hK tv tx ty ev ew;obtain⟨s1,n1,d1,e1,g1⟩:=Pz x;obtain⟨s2,n2,d2,e2,g2⟩:=Pz y;rw[g1,g2]at a3;rw[e1]at a1;rw[e2]at a2;generalize decide (y<x)=b at*;clear e1 e2 g1 g2 hx hy;refine Ca.bQ (n:=K+300) ?_;rw[aA rfl (k25:E1.fn _=_) rfl];unfold wD aU at*;simp only[show LK .i64 []=[] from rfl]at*;simp[f25,a0,a1,a2,a3]
theorem IC (v w:W)(i j:Bool)(n m:Int)(tx:Ca E1 53 [.d (aU 2 []),.d v.d] (.d (Sv.c i n).w.d,none))(ty:Ca E1 53 [.d (aU 2 []),.d w.d] (.d (Sv.c j m).w.d,none)):Ca E1 25 [.d (aU 2 []),.d v.d,.d w.d] (dB (jd i n j m),none):=by
 have tv:=Ca.gM (Ca.bQ (fJ 0 2 []));rw[show aM 2 []=true from rfl]at tv;obtain⟨K,hK,a0,a1,a2⟩:=((tv).j ((tx).j ((ty).any))).at 0;obtain⟨vs,Hz,HV,vc,vb,vu,vp,Rp,ev⟩:=v.aH;obtain⟨ws,TC,TD,wc,wb,wu,wp,TE,ew⟩:=w.aH;simp only[ev,ew]at a1 a2 ⊢;clear hK tv tx ty ev ew;have hc1:(Sv.c i n).w.d=wD false [] [] n i 0 [] []:=rfl;have hc2:(Sv.c j m).w.d=wD false [] [] m j 0 [] []:=rfl;rw[hc1]at a1;rw[hc2]at a2;clear hc1 hc2;refine Ca.bQ (n:=K+300) ?_;rw[aA rfl (k25:E1.fn _=_) rfl];unfold wD aU at*;simp only[show LK .i64 []=[] from rfl]at*;unfold jd
 by_cases h:n<m<;>cases i<;>cases j<;>simp only[h,Xg1,Bool.not_false,Q60,Qs1,X01,Bool.or_true,Bool.true_or,Xc1,decide_true,decide_false] <;>
 simp[f25,a0,a1,a2,h]
end Fi.S
noncomputable section
namespace Fi.S
open Go Fi
set_option maxHeartbeats 8000000
set_option maxRecDepth 10000
theorem En {k:Int}(h:k=2\/k=3):dG k []=[k]:=by unfold dG;rw[if_neg ae]
theorem IE {k:Int}(h:k=2\/k=3){x:List Sv}(hx:Ba (dG k []) x):∃ y S M,x=[y]/\y.of k S M:=by
 rw[En h]at hx;obtain⟨S,M,_,_,h1,h2⟩:=hx;cases x with
 | nil=>cases h1
 | cons y r=>cases r with
  | cons _ _=>simp at h1
  | nil=>exact⟨y,S,M,rfl,h2 0 k y rfl rfl⟩
theorem X3 {k:Int}(h:k=2\/k=3):aib (Ba (dG k [])) (bT (dG k [])) bF (bG k []) (Gg k []) where
 gm:=ah5 (bV (by rcases h with rfl|rfl<;>decide))
 idem:=fun hx=>NV ae hx
 top:=fun {x} hx=>by
  obtain⟨y,S,M,rfl,hy⟩:=IE h hx;show bT (dG k []) ((dG k []).map nH) [y]=(dG k []).map nH;rw[En h];show [dn k (nH k) y]=[nH k]
  rcases h with rfl|rfl
  ·obtain⟨i,n,rfl,h0,_⟩:=tC hy;show [dn 2 (.c false 0) (.c i n)]=[.c false 0]
   rw[RA];have:jd i n false 0=false:=by
    unfold jd;cases i<;>simp<;>omega
   rw[this];rfl
  ·obtain⟨q,rfl,_,h1,_⟩:=tF hy;show [dn 3 (.q 1) (.q q)]=[.q 1]
   rw[Y9,if_neg (by intro hc;exact absurd h1 (Rat.not_le.2 hc))]
def dV (k:Int):List Sv->List Sv->Bool
 | [x],[y]=>uN k x y
 | _,_=>false
theorem xZ {k:Int}(h:k=2\/k=3){x y:List Sv}(hx:Ba (dG k []) x)(hy:Ba (dG k []) y):(if dV k x y then x else y)=bT (dG k []) y x:=by
 obtain⟨a,S,M,rfl,ha⟩:=IE h hx;obtain⟨b,S',M',rfl,hb⟩:=IE h hy;rw[En h];show(if uN k a b then [a] else [b])=[dn k b a]
 rcases h with rfl|rfl
 ·obtain⟨i,n,rfl,_⟩:=tC ha;obtain⟨j,m,rfl,_⟩:=tC hb;rw[RA];show(if jd i n j m then _ else _)=_;split<;>rfl
 ·obtain⟨p,rfl,_⟩:=tF ha;obtain⟨q,rfl,_⟩:=tF hb;rw[Y9];show(if ((3:Int)==3&&decide (q<p))=true then _ else _)=_
  by_cases hq:q<p
  ·rw[if_pos (by simpa using hq),if_pos hq]
  ·rw[if_neg (by simpa using hq),if_neg hq]
theorem P_ {k:Int}(h:k=2\/k=3){x y:List Sv}(hx:Ba (dG k []) x)(hy:Ba (dG k []) y)(hl:lq (bT (dG k [])) x y):dV k x y=false:=by
 have e:=xZ h hx hy;rw[show bT (dG k []) y x=y from hl]at e;cases hb:dV k x y with
 | false=>rfl
 | true =>
  rw[hb,if_pos rfl]at e;subst e;obtain⟨a,S,M,rfl,ha⟩:=IE h hx;have:uN k a a=true:=hb;rcases h with rfl|rfl
  ·obtain⟨i,n,rfl,_⟩:=tC ha;have:jd i n i n=true:=this;unfold jd at this;cases i<;>simp at this
  ·obtain⟨p,rfl,_⟩:=tF ha;have:((3:Int)==3&&decide (p<p))=true:=this;simp at this
end Fi.S
noncomputable section
namespace Fi.S
open Go Fi
set_option maxHeartbeats 8000000
set_option maxRecDepth 10000
end Fi.S
