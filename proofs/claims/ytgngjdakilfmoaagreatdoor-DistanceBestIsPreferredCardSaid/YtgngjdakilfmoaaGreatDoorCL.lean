import Derived.Test.YtgngjdakilfmoaaGreatDoorCH
import Derived.Test.YtgngjdakilfmoaaGreatDoorCF
set_option linter.unusedVariables false
set_option linter.unusedSimpArgs false
noncomputable section
namespace Fi.S
open Go Fi
abbrev fV:Type:=Int × Int × Int
def tot:List aS->fV->Rat
 | [],_=>0
 | (a,y)::r,e=>(if a=e then y else 0)+tot r e
theorem jG (a b:List aS)(e:fV):tot (a++b) e=tot a e+tot b e:=by
 induction a with
 | nil=>simp[tot,Rat.zero_add]
 | cons p r ih=>simp only[Xb0,tot,ih];grind
theorem Vp {a b:List aS}(h:a.Perm b)(e:fV):tot a e=tot b e:=by
 induction h with
 | nil=>rfl
 | cons p _ ih=>simp only[tot,ih]
 | swap p q l=>simp only[tot];grind
 | trans _ _ h1 h2=>rw[h1,h2]
theorem jT {l:List aS}{e:fV}(h:∀ p ∈ l,p.1≠e):tot l e=0:=by
 induction l with
 | nil=>rfl
 | cons p r ih =>
  have h1:=h p (Qi2 ..);have h2:=ih (fun q hq=>h q (Qg2 _ hq));simp only[tot,if_neg h1,h2];grind
theorem M5 (l:List aS)(e:fV):tot (l.filter fun p=>decide (p.2≠0)) e=tot l e:=by
 induction l with
 | nil=>rfl
 | cons p r ih =>
  obtain⟨a,y⟩:=p
  by_cases hy:y=0
  ·subst hy;rw[Xg2 aC];simp only[tot,ih]
   by_cases h:a=e<;>simp[h,Rat.zero_add]
  ·rw[Xh0 (by simpa using hy)];simp only[tot,ih]
theorem Q6 {l:List aS}{e:fV}(h:jf l e=none):∀ p ∈ l,p.1≠e:=by
 induction l with
 | nil=>intro p hp;cases hp
 | cons q r ih =>
  intro p hp;unfold jf at h;split at h
  ·cases h
  ·rename_i hne;rcases Qi1.1 hp with rfl|hp
   ·exact fun he=>hne he.symm
   ·exact ih h p hp
theorem Df {l:List aS}{e:fV}{y:Rat}(h:jf l e=some y):(e,y) ∈ l:=by
 induction l with
 | nil=>cases h
 | cons q r ih =>
  unfold jf at h;split at h
  ·rename_i he;cases h;subst he;exact Qi2 ..
  ·exact Qg2 _ (ih h)
theorem Vq {l:List aS}{e:fV}{y:Rat}{p:aS}(h:p ∈ u6 l e y):p=(e,y)\/p ∈ l:=by
 induction l with
 | nil=>simp only[u6,Qx0]at h;exact .inl h
 | cons q r ih =>
  unfold u6 at h;split at h
  ·rcases Qi1.1 h with rfl|h
   ·exact .inl rfl
   ·exact .inr (Qg2 _ h)
  ·rcases Qi1.1 h with rfl|h
   ·exact .inr (Qi2 ..)
   ·rcases ih h with h|h
    ·exact .inl h
    ·exact .inr (Qg2 _ h)
theorem FR (l:List aS)(e:fV)(y:Rat):(u6 l e y).map (·.1)=l.map (·.1)\/((∀ p ∈ l,p.1≠e)/\(u6 l e y).map (·.1)=l.map (·.1)++[e]):=by
 induction l with
 | nil=>exact .inr ⟨aC,rfl⟩
 | cons q r ih =>
  obtain⟨a,x⟩:=q;unfold u6
  by_cases h:e=a
  ·subst h;left;simp
  ·rw[if_neg h];rcases ih with ih|⟨h1,ih⟩
   ·left;simp only[Qe2,ih]
   ·right
    refine⟨fun p hp => ?_,by simp only[Qe2,ih,Xb0]⟩;rcases Qi1.1 hp with rfl|hp
    ·exact fun he=>h he.symm
    ·exact h1 p hp
def Keys (l:List aS):Prop:=(l.map (·.1)).Nodup
theorem Vr {l:List aS}(h:Keys l)(e:fV)(y:Rat):Keys (u6 l e y):=by
 unfold Keys at*;rcases FR l e y with h1|⟨h1,h2⟩
 ·rw[h1];exact h
 ·rw[h2,List.nodup_append];refine⟨h,aC,?_⟩;intro a ha b hb;simp only[Qx0]at hb;subst hb;obtain⟨p,hp,rfl⟩:=Qg1.1 ha;exact h1 p hp
theorem aak {l:List aS}(h:Keys l)(e:fV)(y:Rat)(e':fV):tot (u6 l e y) e'=if e=e' then y else tot l e':=by
 induction l with
 | nil=>simp only[u6,tot];split<;>grind
 | cons q r ih =>
  obtain⟨a,x⟩:=q;unfold Keys at h ih;simp only[Qe2,X31]at h;have hr:∀ p ∈ r,p.1≠a:=fun p hp he=>h.1 (he ▸ Qg1.2 ⟨p,hp,rfl⟩)
  unfold u6
  by_cases he:e=a
  ·subst he;rw[if_pos rfl];simp only[tot]
   by_cases h2:e=e'
   ·subst h2;simp only[if_pos,jT hr];grind
   ·simp only[if_neg h2]
  ·rw[if_neg he];simp only[tot,ih h.2]
   by_cases h2:e=e'
   ·subst h2;have:¬ a=e:=fun h3=>he h3.symm
    simp only[if_neg this,if_true];grind
   ·simp only[if_neg h2]
theorem Vs {l:List aS}(h:Keys l)(e:fV):(jf l e).getD 0=tot l e:=by
 induction l with
 | nil=>rfl
 | cons q r ih =>
  obtain⟨a,x⟩:=q;unfold Keys at h ih;simp only[Qe2,X31]at h;have hr:∀ p ∈ r,p.1≠a:=fun p hp he=>h.1 (he ▸ Qg1.2 ⟨p,hp,rfl⟩)
  unfold jf
  by_cases he:e=a
  ·subst he;simp only[if_true,Q12,tot,jT hr];grind
  ·have h2:¬ a=e:=fun h3=>he h3.symm
   rw[if_neg he];simp only[tot,if_neg h2,ih h.2];grind
theorem J5 {l:List aS}(h:Keys l)(e:fV)(c:Rat):Keys (nE l e c):=Vr h e _
theorem aal {l:List aS}(h:Keys l)(e:fV)(c:Rat)(e':fV):tot (nE l e c) e'=tot l e'+if e=e' then c else 0:=by
 unfold nE;rw[aak h,Vs h]
 by_cases h2:e=e'
 ·subst h2;simp
 ·simp only[if_neg h2];grind
theorem fu (e:fV):lL e e=false:=by
 cases h:lL e e with
 | false=>rfl
 | true=>rw[mG]at h;omega
theorem pQ {a b c:fV}(h1:lL a b=true)(h2:lL b c=true):lL a c=true:=by
 rw[mG]at*;omega
def Srt (l:List aS):Prop:=l.Pairwise fun a b=>lL a.1 b.1=true
def Nz (l:List aS):Prop:=∀ p ∈ l,p.2≠0
theorem jw {l:List aS}(h:Srt l):Keys l:=by
 unfold Keys;rw[Xe0,Xo2];refine h.imp ?_;intro a b hab he;rw[he,fu]at hab;cases hab
theorem Pg:∀ {l m:List aS},Srt l->Srt m->Nz l->Nz m->(∀ e,tot l e=tot m e)->l=m
 | [],[],_,_,_,_,_=>rfl
 | [],(b,y)::m,_,hm,_,hn,h=>by
  have h1:=h b;have h2:tot m b=0:=jT fun p hp he=>by
   have:=(Qo0.1 hm).1 p hp;rw[he,fu]at this;cases this
  have h3:=hn (b,y) (Qi2 ..);simp only[tot,if_true,h2]at h1;grind
 | (a,x)::l,[],hl,_,hn,_,h=>by
  have h1:=h a;have h2:tot l a=0:=jT fun p hp he=>by
   have:=(Qo0.1 hl).1 p hp;rw[he,fu]at this;cases this
  have h3:=hn (a,x) (Qi2 ..);simp only[tot,if_true,h2]at h1;grind
 | (a,x)::l,(b,y)::m,hl,hm,hn,hk,h=>by
  have hl':=Qo0.1 hl;have hm':=Qo0.1 hm;have zl:∀ e,(e=a\/lL e a=true)->tot l e=0:=fun e he=>jT fun p hp hpe=>by
   have h1:=hl'.1 p hp;simp only at h1;rw[hpe]at h1;rcases he with rfl|he
   ·rw[fu]at h1;cases h1
   ·have:=pQ h1 he;rw[fu]at this;cases this
  have zm:∀ e,(e=b\/lL e b=true)->tot m e=0:=fun e he=>jT fun p hp hpe=>by
   have h1:=hm'.1 p hp;simp only at h1;rw[hpe]at h1;rcases he with rfl|he
   ·rw[fu]at h1;cases h1
   ·have:=pQ h1 he;rw[fu]at this;cases this
  have hx:=hn (a,x) (Qi2 ..);have hy:=hk (b,y) (Qi2 ..);have hab:a=b:=by
   cases h1:lL a b with
   | true =>
    have e1:=h a;have hne:¬ b=a:=fun h2=>by rw[h2,fu]at h1;cases h1
    simp only[tot,if_true,if_neg hne,zl a (.inl rfl),zm a (.inr h1)]at e1;grind
   | false =>
    cases h2:lL b a with
    | true =>
     have e1:=h b;have hne:¬ a=b:=fun h3=>by rw[h3,fu]at h2;cases h2
     simp only[tot,if_true,if_neg hne,zm b (.inl rfl),zl b (.inr h2)]at e1;grind
    | false=>exact kN h1 h2
  subst hab;have hxy:x=y:=by
   have e1:=h a;simp only[tot,if_true,zl a (.inl rfl),zm a (.inl rfl)]at e1;grind
  subst hxy;have:l=m:=Pg hl'.2 hm'.2 (fun p hp=>hn p (Qg2 _ hp)) (fun p hp=>hk p (Qg2 _ hp)) (fun e=>by
   have e1:=h e;simp only[tot]at e1;grind)
  rw[this]
def canon (l:List aS):List aS:=(l.filter fun p=>decide (p.2≠0)).mergeSort fun a b => !lL b.1 a.1
theorem y9 (l:List aS)(e:fV):tot (canon l) e=tot l e:=by
 unfold canon;rw[Vp (Q42 _ _),M5]
theorem FT {l:List aS}{p:aS}:p ∈ canon l↔p ∈ l/\p.2≠0:=by
 unfold canon;rw[(Q42 _ _).mem_iff];simp
theorem Vt (l:List aS):Nz (canon l):=fun p hp=>(FT.1 hp).2
theorem FU {l:List aS}(h:Keys l):Srt (canon l):=by
 have h1:((canon l).map (·.1)).Nodup:=by
  have hp:(canon l).Perm (l.filter fun p=>decide (p.2≠0)):=Q42 _ _;refine((hp.map (·.1)).nodup_iff).2 ?_;exact Xu2 (List.filter_sublist.map _) h
 have h2:(canon l).Pairwise fun a b=>(!lL b.1 a.1)=true:=by
  refine Xw1 (fun a b c hab hbc => ?_) (fun a b => ?_) _
  ·simp only[Qt1,Bool.not_eq_eq_eq_not,Xg1]at*;cases h3:lL c.1 a.1 with
   | false=>rfl
   | true =>
    cases h4:lL b.1 c.1 with
    | true=>have:=pQ h4 h3;rw[this]at hab;cases hab
    | false =>
     have:=kN h4 hbc;rw[this]at hab;rw[hab]at h3;cases h3
  ·cases h3:lL b.1 a.1 with
   | false=>rfl
   | true =>
    cases h4:lL a.1 b.1 with
    | false=>rfl
    | true=>have:=pQ h3 h4;rw[fu]at this;cases this
 rw[Xe0,Xo2]at h1;refine(h1.and h2).imp ?_;rintro a b ⟨hne,hle⟩;simp only[Qt1,Bool.not_eq_eq_eq_not,Xg1]at hle;cases h3:lL a.1 b.1 with
 | true=>rfl
 | false=>exact absurd (kN h3 hle) hne
def dY (l ms:List aS):List aS:=ms.foldl (fun s p=>nE s p.1 p.2) l
theorem y_ (l:List aS)(p:aS)(ms:List aS):dY l (p::ms)=dY (nE l p.1 p.2) ms:=rfl
theorem xC:∀ {ms l:List aS},Keys l->Keys (dY l ms)
 | [],_,h=>h
 | p::ms,l,h=>xC (ms:=ms) (J5 h p.1 p.2)
theorem xD:∀ {ms l:List aS},Keys l->∀ e,tot (dY l ms) e=tot l e+tot ms e
 | [],l,h,e=>by simp only[dY,List.foldl_nil,tot];grind
 | p::ms,l,h,e=>by
  rw[y_,xD (J5 h p.1 p.2),aal h];simp only[tot];grind
theorem put_mem {l:List aS}{e:fV}{c:Rat}{p:aS}(h:p ∈ nE l e c):p=(e,(jf l e).getD 0+c)\/p ∈ l:=Vq h
def Fits (l:List aS):Prop:=∀ p ∈ l,bI p.1=true
def Bd (S:Nat)(l:List aS):Prop:=∀ p ∈ l,qz p.2<=S
theorem Bd.mono {S T:Nat}{l:List aS}(h:Bd S l)(hST:S<=T):Bd T l:=fun p hp=>Qc1 (h p hp) hST
theorem Vu {l:List aS}(h:Fits l){e:fV}(he:bI e=true)(c:Rat):Fits (nE l e c):=by
 intro p hp;rcases put_mem hp with rfl|hp
 ·exact he
 ·exact h p hp
theorem M6 (l:List aS)(e:fV)(c:Rat):(nE l e c).length<=l.length+1:=by
 have:((nE l e c).map (·.1)).length<=(l.map (·.1)).length+1:=by
  unfold nE;rcases FR l e ((jf l e).getD 0+c) with h|⟨_,h⟩
  ·rw[h];omega
  ·rw[h];simp
 simpa using this
theorem xE:∀ {ms l:List aS},Fits l->Fits ms->Fits (dY l ms)
 | [],_,h,_=>h
 | p::ms,l,h,hm=>xE (ms:=ms) (Vu h (hm p (Qi2 ..)) p.2) (fun q hq=>hm q (Qg2 _ hq))
theorem vZ:∀ {ms l:List aS},(dY l ms).length<=l.length+ms.length
 | [],_=>by simp[dY]
 | p::ms,l=>by
  have h1:=vZ (ms:=ms) (l:=nE l p.1 p.2);have h2:=M6 l p.1 p.2;rw[y_,Qf2];omega
structure PV (S:Nat)(l:List aS):Prop where
 M7:Srt l
 nz:Nz l
 fits:Fits l
 bd:Bd S l
theorem PV.mono {S T:Nat}{l:List aS}(h:PV S l)(hST:S<=T):PV T l:=⟨h.M7,h.nz,h.fits,h.bd.mono hST⟩
theorem PV.nil (S:Nat):PV S []:=⟨List.Pairwise.nil,fun _ hp=>(by cases hp),fun _ hp=>(by cases hp),fun _ hp=>(by cases hp)⟩
theorem PV.ext {S T:Nat}{l m:List aS}(h:PV S l)(k:PV T m)(e:∀ e,tot l e=tot m e):l=m:=Pg h.M7 k.M7 h.nz k.nz e
theorem J6:∀ (n:Nat) (l:List Nat),l.Nodup->(∀ x ∈ l,x<n)->l.length<=n
 | 0,l,_,h=>by
  cases l with
  | nil=>simp
  | cons x r=>exact absurd (h x (Qi2 ..)) ae
 | n+1,l,hn,h=>by
  have h1:=J6 n (l.erase n) (hn.erase n) (fun x hx=>by
   have h2:=h x (List.mem_of_mem_erase hx);have h3:x≠n:=fun e=>by subst e;exact(List.Nodup.mem_erase_iff hn).1 hx |>.1 rfl
   omega)
  have h2:=List.length_erase_of_mem (a:=n) (l:=l)
  by_cases hm:n ∈ l
  ·have:=h2 hm;omega
  ·rw[List.erase_of_not_mem hm]at h1;omega
theorem dh {e:fV}(h:bI e=true):0<=e.1/\e.1<=5/\0<=e.2.1/\e.2.1<=5/\0<=e.2.2/\e.2.2<=5/\e.1+e.2.1+e.2.2<=5:=by
 unfold bI lJ at h;simp at h;omega
theorem J7 {e:fV}:bI e=true↔0<=e.1/\0<=e.2.1/\0<=e.2.2/\e.1+e.2.1+e.2.2<=5:=by
 unfold bI lJ;simp;omega
theorem Ad {l:List aS}(hk:Keys l)(hf:Fits l):l.length<=216:=by
 have h1:(l.map fun p=>(36*p.1.1+6*p.1.2.1+p.1.2.2).toNat).Nodup:=by
  unfold Keys at hk;rw[Xe0,Xo2]at hk ⊢;refine(List.Pairwise.and_mem.1 hk).imp ?_;rintro a b ⟨ha,hb,hne⟩ he;apply hne;have h2:=dh (hf a ha);have h3:=dh (hf b hb);have:a.1.1=b.1.1/\a.1.2.1=b.1.2.1/\a.1.2.2=b.1.2.2:=ae;obtain⟨⟨x,y,z⟩,q⟩:=a;obtain⟨⟨x',y',z'⟩,q'⟩:=b;simp only at this;obtain⟨rfl,rfl,rfl⟩:=this;rfl
 have h2:=J6 216 _ h1 (fun x hx=>by
  obtain⟨p,hp,rfl⟩:=Qg1.1 hx;have:=dh (hf p hp);omega)
 simpa using h2
theorem PV.length {S:Nat}{l:List aS}(h:PV S l):l.length<=216:=Ad (jw h.M7) h.fits
def fK (a b:List aS):List aS:=canon (dY [] (a++b))
theorem keys_nil:Keys []:=List.nodup_nil
theorem jy (a b:List aS)(e:fV):tot (fK a b) e=tot a e+tot b e:=by
 unfold fK;rw[y9,xD keys_nil,jG];simp only[tot];grind
set_option maxHeartbeats 8000000
def vC (p:aS):Mo:=⟨p.1,qs p.2,qn p.2,qd p.2⟩
theorem Bw {S:Nat}:∀ {l:List aS} {q:Option Mo},PV S l->(∀ m,q=some m->∀ p ∈ l,lL m.e p.1=true)->z_ q (l.map vC)=true
 | [],_,_,_=>by simp[z_]
 | p::l,q,h,hq=>by
  have hs:=Qo0.1 h.M7;have hfit:(vC p).fits=true:=by
   unfold Mo.fits vC;have h1:=h.fits p (Qi2 ..);have h2:qn p.2≠[]:=by
    have h3:=h.nz p (Qi2 ..);intro h4;have h5:p.2.num.natAbs=0:=by
     have:=a_ (p.2.num.natAbs);unfold qn at h4;rw[h4]at this;simpa[val] using this.symm
    exact h3 (Rat.num_eq_zero.1 (Xu0.1 h5))
   simp[h1,h2,uw]
  have hr:z_ (some (vC p)) (l.map vC)=true:=Bw (S:=S) ⟨hs.2,fun x hx=>h.nz x (Qg2 _ hx),fun x hx=>h.fits x (Qg2 _ hx),fun x hx=>h.bd x (Qg2 _ hx)⟩ (fun m hm x hx=>by cases hm;exact hs.1 x hx);cases q with
  | none=>simp only[Qe2,z_,hfit,hr,Bool.and_self]
  | some m =>
   have h6:jr m.e (vC p).e<0:=of_decide_eq_true (hq m rfl p (Qi2 ..));simp only[Qe2,z_,hfit,hr,decide_eq_true h6,Bool.and_self]
theorem Vz {S:Nat}{l:List aS}(h:PV S l)(hS:S<=1000):Po (l.map vC):=by
 refine⟨fun m hm => ?_,by have:=h.length;simp;omega⟩;obtain⟨p,hp,rfl⟩:=Qg1.1 hm;have hb:=h.bd p hp;have h1:(qn p.2).length<=qz p.2:=Q01 _ _;have h2:(qd p.2).length<=qz p.2:=by
  unfold qd;split
  ·simp
  ·exact Qy2 _ _
 exact⟨He _,Hf _,Qc1 h1 (Qc1 hb hS),Qc1 h2 (Qc1 hb hS)⟩
def dz (a b:fV):fV:=(a.1+b.1,a.2.1+b.2.1,a.2.2+b.2.2)
def iQ (p:aS)(b:List aS):List aS:=(b.map fun q=>(dz p.1 q.1,p.2*q.2)).filter fun x=>bI x.1
def dK (a b:List aS):List aS:=a.flatMap fun p=>iQ p b
theorem xH (p:aS)(b:List aS):(iQ p b).length<=b.length:=by
 unfold iQ;exact Qc1 (Xq0 _ _) aC
theorem M_ (p:aS)(b:List aS):Fits (iQ p b):=fun x hx=>(Q31.1 hx).2
theorem qJ (a b:List aS):(dK a b).length<=a.length*b.length:=by
 induction a with
 | nil=>simp[dK]
 | cons p r ih =>
  have h1:dK (p::r) b=iQ p b++dK r b:=by simp[dK]
  have h2:=xH p b;rw[h1,Qb0,Qf2,Qq1];omega
theorem Di (a b:List aS):Fits (dK a b):=fun x hx=>by
 obtain⟨p,_,hx⟩:=Xk0.1 hx;exact M_ p b x hx
def dM (a b:List aS):List aS:=canon (dY [] (dK a b))
theorem uH:∀ {l:List aS},Keys l->∀ {p:aS},p ∈ l->tot l p.1=p.2
 | [],_,_,hp=>by cases hp
 | (a,y)::r,h,p,hp=>by
  unfold Keys at h;simp only[Qe2,X31]at h;rcases Qi1.1 hp with h0|hp2
  ·subst h0;have hr:∀ x ∈ r,x.1≠a:=fun x hx he=>h.1 (he ▸ Qg1.2 ⟨x,hx,rfl⟩)
   simp only[tot,if_true,jT hr];grind
  ·have h1:¬ a=p.1:=fun he=>h.1 (he ▸ Qg1.2 ⟨p,hp2,rfl⟩)
   simp only[tot,if_neg h1,uH h.2 hp2];grind
theorem Dj {S:Nat}(hS:1<=S){l:List aS}(h:Keys l)(hb:Bd S l)(e:fV):qz (tot l e)<=S:=by
 cases hg:jf l e with
 | none =>
  rw[jT (Q6 hg)];exact Qc1 jD hS
 | some y =>
  have h1:=Df hg;have h2:=uH h h1;simp only at h2;rw[h2];exact hb _ h1
theorem Ka {S:Nat}{l:List aS}(hk:Keys l)(hf:Fits l)(hb:∀ e,qz (tot l e)<=S):PV S (canon l):=by
 refine⟨FU hk,Vt l,fun p hp=>hf p (FT.1 hp).1,fun p hp => ?_⟩;have:=uH (jw (FU hk)) hp;rw[y9]at this;rw[<-this];exact hb _
theorem xI (l:List aS):(canon l).length<=l.length:=by
 unfold canon;rw[List.length_mergeSort];exact Xq0 _ _
theorem gI {S T:Nat}(hS:1<=S)(hT:1<=T){a b:List aS}(ha:PV S a)(hb:PV T b):PV (S+T+1) (fK a b):=by
 refine Ka (xC keys_nil) (xE (fun p hp=>by cases hp) ?_) fun e => ?_
 ·intro p hp;rcases Qw0.1 hp with hp|hp
  ·exact ha.fits p hp
  ·exact hb.fits p hp
 ·have h1:tot (dY [] (a++b)) e=tot a e+tot b e:=by
   rw[xD keys_nil,jG];simp only[tot];grind
  rw[h1];have h2:=qw (tot a e) (tot b e);have h3:=Dj hS (jw ha.M7) ha.bd e;have h4:=Dj hT (jw hb.M7) hb.bd e;omega
theorem Af (a b:List aS):(fK a b).length<=a.length+b.length:=by
 have h1:=xI (dY [] (a++b));have h2:=vZ (ms:=a++b) (l:=[]);rw[Qb0]at h2;show(canon (dY [] (a++b))).length<=_;simp only[Qs0]at h2;omega
theorem Ag (a b:List aS):(dM a b).length<=a.length*b.length:=by
 have h1:=xI (dY [] (dK a b));have h2:=vZ (ms:=dK a b) (l:=[]);have h3:=qJ a b;show(canon (dY [] (dK a b))).length<=_;simp only[Qs0]at h2;omega
theorem Nb {p:aS}{b:List aS}(hb:Keys b):Keys (iQ p b):=by
 have h1:Keys (b.map fun q=>(dz p.1 q.1,p.2*q.2)):=by
  unfold Keys at*;rw[Xe0,Xo2]at hb;rw[Q2,Xe0,Xo2];refine hb.imp ?_;intro x y hne he;apply hne;simp only[Function.comp,dz,Qm0]at he;obtain⟨⟨a,b,c⟩,_⟩:=x;obtain⟨⟨a',b',c'⟩,_⟩:=y;simp only at he;simp only[Qm0];omega
 unfold Keys iQ at*;exact Xu2 (List.filter_sublist.map _) h1
theorem xJ {S T:Nat}(hS:1<=S){b:List aS}(hb:PV T b)(e:fV):∀ {a:List aS},Bd S a->qz (tot (dK a b) e)<=a.length*(S+T+1)+1
 | [],_=>by
  have:=jD;simp only[dK,List.flatMap_nil,tot,Qs0];omega
 | p::a,ha=>by
  have h1:dK (p::a) b=iQ p b++dK a b:=by simp[dK]
  rw[h1,jG];have h2:=qw (tot (iQ p b) e) (tot (dK a b) e);have h3:=xJ hS hb e (a:=a) (fun x hx=>ha x (Qg2 _ hx));have h4:Bd (S+T) (iQ p b):=by
   intro x hx;obtain⟨hx,_⟩:=Q31.1 hx;obtain⟨q,hq,rfl⟩:=Qg1.1 hx;have g1:=vU p.2 q.2;have g2:=hb.bd q hq;have g3:=ha p (Qi2 ..);show qz (p.2*q.2)<=_;omega
  have h5:=Dj ae (Nb (jw hb.M7)) h4 e;rw[Qf2,Qq1];omega
theorem tq (a b:List aS)(e:fV):tot (dM a b) e=tot (dK a b) e:=by
 unfold dM;rw[y9,xD keys_nil];simp only[tot];grind
theorem gU {S T:Nat}(hS:1<=S){a b:List aS}(ha:PV S a)(hb:PV T b):PV (a.length*(S+T+1)+1) (dM a b):=by
 refine Ka (xC keys_nil) (xE (fun p hp=>by cases hp) (Di a b)) fun e => ?_
 have h1:tot (dY [] (dK a b)) e=tot (dK a b) e:=by
  rw[xD keys_nil];simp only[tot];grind
 rw[h1];exact xJ hS hb e ha.bd
end Fi.S
