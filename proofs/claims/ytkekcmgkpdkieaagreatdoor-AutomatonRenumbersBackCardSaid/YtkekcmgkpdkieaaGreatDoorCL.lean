import Derived.Test.YtkekcmgkpdkieaaGreatDoorCH
import Derived.Test.YtkekcmgkpdkieaaGreatDoorCF
set_option linter.unusedVariables false
set_option linter.unusedSimpArgs false
noncomputable section
namespace Fi.S
open Go Fi
abbrev fM:Type:=Int × Int × Int
def tot:List aZ->fM->Rat
 | [],_=>0
 | (a,y)::r,e=>(if a=e then y else 0)+tot r e
theorem jl (a b:List aZ)(e:fM):tot (a++b) e=tot a e+tot b e:=by
 induction a with
 | nil=>simp[tot,Rat.zero_add]
 | cons p r ih=>simp only[Q52,tot,ih];grind
theorem Ul {a b:List aZ}(h:a.Perm b)(e:fM):tot a e=tot b e:=by
 induction h with
 | nil=>rfl
 | cons p _ ih=>simp only[tot,ih]
 | swap p q l=>simp only[tot];grind
 | trans _ _ h1 h2=>rw[h1,h2]
theorem kN {l:List aZ}{e:fM}(h:∀ p ∈ l,p.1≠e):tot l e=0:=by
 induction l with
 | nil=>rfl
 | cons p r ih =>
  have h1:=h p (Qj1 ..);have h2:=ih (fun q hq=>h q (Qh0 _ hq));simp only[tot,if_neg h1,h2];grind
theorem Md (l:List aZ)(e:fM):tot (l.filter fun p=>decide (p.2≠0)) e=tot l e:=by
 induction l with
 | nil=>rfl
 | cons p r ih =>
  obtain⟨a,y⟩:=p
  by_cases hy:y=0
  ·subst hy;rw[Xf2 (by simp)];simp only[tot,ih]
   by_cases h:a=e<;>simp[h,Rat.zero_add]
  ·rw[Xg0 (by simpa using hy)];simp only[tot,ih]
theorem Qj {l:List aZ}{e:fM}(h:lJ l e=none):∀ p ∈ l,p.1≠e:=by
 induction l with
 | nil=>intro p hp;cases hp
 | cons q r ih =>
  intro p hp;unfold lJ at h;split at h
  ·cases h
  ·rename_i hne;rcases Qi1.1 hp with rfl|hp
   ·exact fun he=>hne he.symm
   ·exact ih h p hp
theorem Cf {l:List aZ}{e:fM}{y:Rat}(h:lJ l e=some y):(e,y) ∈ l:=by
 induction l with
 | nil=>cases h
 | cons q r ih =>
  unfold lJ at h;split at h
  ·rename_i he;cases h;subst he;exact Qj1 ..
  ·exact Qh0 _ (ih h)
theorem Um {l:List aZ}{e:fM}{y:Rat}{p:aZ}(h:p ∈ vF l e y):p=(e,y)\/p ∈ l:=by
 induction l with
 | nil=>simp only[vF,Q2]at h;exact .inl h
 | cons q r ih =>
  unfold vF at h;split at h
  ·rcases Qi1.1 h with rfl|h
   ·exact .inl rfl
   ·exact .inr (Qh0 _ h)
  ·rcases Qi1.1 h with rfl|h
   ·exact .inr (Qj1 ..)
   ·rcases ih h with h|h
    ·exact .inl h
    ·exact .inr (Qh0 _ h)
theorem EZ (l:List aZ)(e:fM)(y:Rat):(vF l e y).map (·.1)=l.map (·.1)\/((∀ p ∈ l,p.1≠e)/\(vF l e y).map (·.1)=l.map (·.1)++[e]):=by
 induction l with
 | nil=>exact .inr ⟨by simp,rfl⟩
 | cons q r ih =>
  obtain⟨a,x⟩:=q;unfold vF
  by_cases h:e=a
  ·subst h;left;simp
  ·rw[if_neg h];rcases ih with ih|⟨h1,ih⟩
   ·left;simp only[Qd2,ih]
   ·right
    refine⟨fun p hp => ?_,by simp only[Qd2,ih,Q52]⟩;rcases Qi1.1 hp with rfl|hp
    ·exact fun he=>h he.symm
    ·exact h1 p hp
def Keys (l:List aZ):Prop:=(l.map (·.1)).Nodup
theorem Un {l:List aZ}(h:Keys l)(e:fM)(y:Rat):Keys (vF l e y):=by
 unfold Keys at*;rcases EZ l e y with h1|⟨h1,h2⟩
 ·rw[h1];exact h
 ·rw[h2,List.nodup_append];refine⟨h,by simp,?_⟩;intro a ha b hb;simp only[Q2]at hb;subst hb;obtain⟨p,hp,rfl⟩:=Qg2.1 ha;exact h1 p hp
theorem YG {l:List aZ}(h:Keys l)(e:fM)(y:Rat)(e':fM):tot (vF l e y) e'=if e=e' then y else tot l e':=by
 induction l with
 | nil=>simp only[vF,tot];split<;>grind
 | cons q r ih =>
  obtain⟨a,x⟩:=q;unfold Keys at h ih;simp only[Qd2,X1]at h;have hr:∀ p ∈ r,p.1≠a:=fun p hp he=>h.1 (he ▸ Qg2.2 ⟨p,hp,rfl⟩)
  unfold vF
  by_cases he:e=a
  ·subst he;rw[if_pos rfl];simp only[tot]
   by_cases h2:e=e'
   ·subst h2;simp only[if_pos,kN hr];grind
   ·simp only[if_neg h2]
  ·rw[if_neg he];simp only[tot,ih h.2]
   by_cases h2:e=e'
   ·subst h2;have:¬ a=e:=fun h3=>he h3.symm
    simp only[if_neg this,if_true];grind
   ·simp only[if_neg h2]
theorem Uo {l:List aZ}(h:Keys l)(e:fM):(lJ l e).getD 0=tot l e:=by
 induction l with
 | nil=>rfl
 | cons q r ih =>
  obtain⟨a,x⟩:=q;unfold Keys at h ih;simp only[Qd2,X1]at h;have hr:∀ p ∈ r,p.1≠a:=fun p hp he=>h.1 (he ▸ Qg2.2 ⟨p,hp,rfl⟩)
  unfold lJ
  by_cases he:e=a
  ·subst he;simp only[if_true,Q30,tot,kN hr];grind
  ·have h2:¬ a=e:=fun h3=>he h3.symm
   rw[if_neg he];simp only[tot,if_neg h2,ih h.2];grind
theorem Jm {l:List aZ}(h:Keys l)(e:fM)(c:Rat):Keys (qU l e c):=Un h e _
theorem YH {l:List aZ}(h:Keys l)(e:fM)(c:Rat)(e':fM):tot (qU l e c) e'=tot l e'+if e=e' then c else 0:=by
 unfold qU;rw[YG h,Uo h]
 by_cases h2:e=e'
 ·subst h2;simp
 ·simp only[if_neg h2];grind
theorem eu (e:fM):kV e e=false:=by
 cases h:kV e e with
 | false=>rfl
 | true=>rw[lY]at h;omega
theorem n_ {a b c:fM}(h1:kV a b=true)(h2:kV b c=true):kV a c=true:=by
 rw[lY]at*;omega
def Srt (l:List aZ):Prop:=l.Pairwise fun a b=>kV a.1 b.1=true
def Nz (l:List aZ):Prop:=∀ p ∈ l,p.2≠0
theorem jd {l:List aZ}(h:Srt l):Keys l:=by
 unfold Keys;rw[Qr0,Xf1];refine h.imp ?_;intro a b hab he;rw[he,eu]at hab;cases hab
theorem Om:∀ {l m:List aZ},Srt l->Srt m->Nz l->Nz m->(∀ e,tot l e=tot m e)->l=m
 | [],[],_,_,_,_,_=>rfl
 | [],(b,y)::m,_,hm,_,hn,h=>by
  have h1:=h b;have h2:tot m b=0:=kN fun p hp he=>by
   have:=(Qk1.1 hm).1 p hp;rw[he,eu]at this;cases this
  have h3:=hn (b,y) (Qj1 ..);simp only[tot,if_true,h2]at h1;grind
 | (a,x)::l,[],hl,_,hn,_,h=>by
  have h1:=h a;have h2:tot l a=0:=kN fun p hp he=>by
   have:=(Qk1.1 hl).1 p hp;rw[he,eu]at this;cases this
  have h3:=hn (a,x) (Qj1 ..);simp only[tot,if_true,h2]at h1;grind
 | (a,x)::l,(b,y)::m,hl,hm,hn,hk,h=>by
  have hl':=Qk1.1 hl;have hm':=Qk1.1 hm;have zl:∀ e,(e=a\/kV e a=true)->tot l e=0:=fun e he=>kN fun p hp hpe=>by
   have h1:=hl'.1 p hp;simp only at h1;rw[hpe]at h1;rcases he with rfl|he
   ·rw[eu]at h1;cases h1
   ·have:=n_ h1 he;rw[eu]at this;cases this
  have zm:∀ e,(e=b\/kV e b=true)->tot m e=0:=fun e he=>kN fun p hp hpe=>by
   have h1:=hm'.1 p hp;simp only at h1;rw[hpe]at h1;rcases he with rfl|he
   ·rw[eu]at h1;cases h1
   ·have:=n_ h1 he;rw[eu]at this;cases this
  have hx:=hn (a,x) (Qj1 ..);have hy:=hk (b,y) (Qj1 ..);have hab:a=b:=by
   cases h1:kV a b with
   | true =>
    have e1:=h a;have hne:¬ b=a:=fun h2=>by rw[h2,eu]at h1;cases h1
    simp only[tot,if_true,if_neg hne,zl a (.inl rfl),zm a (.inr h1)]at e1;grind
   | false =>
    cases h2:kV b a with
    | true =>
     have e1:=h b;have hne:¬ a=b:=fun h3=>by rw[h3,eu]at h2;cases h2
     simp only[tot,if_true,if_neg hne,zm b (.inl rfl),zl b (.inr h2)]at e1;grind
    | false=>exact j_ h1 h2
  subst hab;have hxy:x=y:=by
   have e1:=h a;simp only[tot,if_true,zl a (.inl rfl),zm a (.inl rfl)]at e1;grind
  subst hxy;have:l=m:=Om hl'.2 hm'.2 (fun p hp=>hn p (Qh0 _ hp)) (fun p hp=>hk p (Qh0 _ hp)) (fun e=>by
   have e1:=h e;simp only[tot]at e1;grind)
  rw[this]
def canon (l:List aZ):List aZ:=(l.filter fun p=>decide (p.2≠0)).mergeSort fun a b => !kV b.1 a.1
theorem yK (l:List aZ)(e:fM):tot (canon l) e=tot l e:=by
 unfold canon;rw[Ul (Q31 _ _),Md]
theorem E5 {l:List aZ}{p:aZ}:p ∈ canon l↔p ∈ l/\p.2≠0:=by
 unfold canon;rw[(Q31 _ _).mem_iff];simp
theorem Uq (l:List aZ):Nz (canon l):=fun p hp=>(E5.1 hp).2
theorem E8 {l:List aZ}(h:Keys l):Srt (canon l):=by
 have h1:((canon l).map (·.1)).Nodup:=by
  have hp:(canon l).Perm (l.filter fun p=>decide (p.2≠0)):=Q31 _ _;refine((hp.map (·.1)).nodup_iff).2 ?_;exact Xu0 (List.filter_sublist.map _) h
 have h2:(canon l).Pairwise fun a b=>(!kV b.1 a.1)=true:=by
  refine Xu2 (fun a b c hab hbc => ?_) (fun a b => ?_) _
  ·simp only[Qs2,Bool.not_eq_eq_eq_not,Xi2]at*;cases h3:kV c.1 a.1 with
   | false=>rfl
   | true =>
    cases h4:kV b.1 c.1 with
    | true=>have:=n_ h4 h3;rw[this]at hab;cases hab
    | false =>
     have:=j_ h4 hbc;rw[this]at hab;rw[hab]at h3;cases h3
  ·cases h3:kV b.1 a.1 with
   | false=>rfl
   | true =>
    cases h4:kV a.1 b.1 with
    | false=>rfl
    | true=>have:=n_ h3 h4;rw[eu]at this;cases this
 rw[Qr0,Xf1]at h1;refine(h1.and h2).imp ?_;rintro a b ⟨hne,hle⟩;simp only[Qs2,Bool.not_eq_eq_eq_not,Xi2]at hle;cases h3:kV a.1 b.1 with
 | true=>rfl
 | false=>exact absurd (j_ h3 hle) hne
def gF (l ms:List aZ):List aZ:=ms.foldl (fun s p=>qU s p.1 p.2) l
theorem yL (l:List aZ)(p:aZ)(ms:List aZ):gF l (p::ms)=gF (qU l p.1 p.2) ms:=rfl
theorem Jn (l a b:List aZ):gF l (a++b)=gF (gF l a) b:=by simp[gF,Xp0]
theorem wQ:∀ {ms l:List aZ},Keys l->Keys (gF l ms)
 | [],_,h=>h
 | p::ms,l,h=>wQ (ms:=ms) (Jm h p.1 p.2)
theorem wR:∀ {ms l:List aZ},Keys l->∀ e,tot (gF l ms) e=tot l e+tot ms e
 | [],l,h,e=>by simp only[gF,List.foldl_nil,tot];grind
 | p::ms,l,h,e=>by
  rw[yL,wR (Jm h p.1 p.2),YH h];simp only[tot];grind
theorem put_mem {l:List aZ}{e:fM}{c:Rat}{p:aZ}(h:p ∈ qU l e c):p=(e,(lJ l e).getD 0+c)\/p ∈ l:=Um h
def Fits (l:List aZ):Prop:=∀ p ∈ l,bR p.1=true
def Bd (S:Nat)(l:List aZ):Prop:=∀ p ∈ l,qz p.2<=S
theorem Bd.mono {S T:Nat}{l:List aZ}(h:Bd S l)(hST:S<=T):Bd T l:=fun p hp=>Qc2 (h p hp) hST
theorem Ur {l:List aZ}(h:Fits l){e:fM}(he:bR e=true)(c:Rat):Fits (qU l e c):=by
 intro p hp;rcases put_mem hp with rfl|hp
 ·exact he
 ·exact h p hp
theorem ab8 {S:Nat}{l:List aZ}(h:Bd S l)(e:fM){c:Rat}{T:Nat}(hc:qz c<=T):Bd (S+T+1) (qU l e c):=by
 intro p hp;rcases put_mem hp with rfl|hp
 ·show qz ((lJ l e).getD 0+c)<=_;cases hg:lJ l e with
  | none =>
   have:(0:Rat)+c=c:=Rat.zero_add c;simp only[Option.getD_none,this];omega
  | some y =>
   have h1:=h _ (Cf hg);have h2:=oV y c;simp only[Q30]at*;omega
 ·have:=h p hp;omega
theorem Me (l:List aZ)(e:fM)(c:Rat):(qU l e c).length<=l.length+1:=by
 have:((qU l e c).map (·.1)).length<=(l.map (·.1)).length+1:=by
  unfold qU;rcases EZ l e ((lJ l e).getD 0+c) with h|⟨_,h⟩
  ·rw[h];omega
  ·rw[h];simp
 simpa using this
theorem wS:∀ {ms l:List aZ},Fits l->Fits ms->Fits (gF l ms)
 | [],_,h,_=>h
 | p::ms,l,h,hm=>wS (ms:=ms) (Ur h (hm p (Qj1 ..)) p.2) (fun q hq=>hm q (Qh0 _ hq))
theorem Mf {T:Nat}:∀ {ms l:List aZ} {S:Nat},Bd S l->Bd T ms->Bd (S+ms.length*(T+1)) (gF l ms)
 | [],_,_,h,_=>h.mono (by simp)
 | p::ms,l,S,h,hm=>by
  have:=Mf (ms:=ms) (ab8 h p.1 (hm p (Qj1 ..))) (fun q hq=>hm q (Qh0 _ hq));rw[yL];refine this.mono ?_;rw[Qe2,Qq1];omega
theorem vG:∀ {ms l:List aZ},(gF l ms).length<=l.length+ms.length
 | [],_=>by simp[gF]
 | p::ms,l=>by
  have h1:=vG (ms:=ms) (l:=qU l p.1 p.2);have h2:=Me l p.1 p.2;rw[yL,Qe2];omega
structure PV (S:Nat)(l:List aZ):Prop where
 Mg:Srt l
 nz:Nz l
 fits:Fits l
 bd:Bd S l
theorem PV.mono {S T:Nat}{l:List aZ}(h:PV S l)(hST:S<=T):PV T l:=⟨h.Mg,h.nz,h.fits,h.bd.mono hST⟩
theorem PV.nil (S:Nat):PV S []:=⟨List.Pairwise.nil,fun _ hp=>(by cases hp),fun _ hp=>(by cases hp),fun _ hp=>(by cases hp)⟩
theorem PV.ext {S T:Nat}{l m:List aZ}(h:PV S l)(k:PV T m)(e:∀ e,tot l e=tot m e):l=m:=Om h.Mg k.Mg h.nz k.nz e
theorem Jo:∀ (n:Nat) (l:List Nat),l.Nodup->(∀ x ∈ l,x<n)->l.length<=n
 | 0,l,_,h=>by
  cases l with
  | nil=>simp
  | cons x r=>exact absurd (h x (Qj1 ..)) omK
 | n+1,l,hn,h=>by
  have h1:=Jo n (l.erase n) (hn.erase n) (fun x hx=>by
   have h2:=h x (List.mem_of_mem_erase hx);have h3:x≠n:=fun e=>by subst e;exact(List.Nodup.mem_erase_iff hn).1 hx |>.1 rfl
   omega)
  have h2:=List.length_erase_of_mem (a:=n) (l:=l)
  by_cases hm:n ∈ l
  ·have:=h2 hm;omega
  ·rw[List.erase_of_not_mem hm]at h1;omega
theorem fA {e:fM}(h:bR e=true):0<=e.1/\e.1<=5/\0<=e.2.1/\e.2.1<=5/\0<=e.2.2/\e.2.2<=5/\e.1+e.2.1+e.2.2<=5:=by
 unfold bR kU at h;simp at h;omega
theorem Us {e:fM}:bR e=true↔0<=e.1/\0<=e.2.1/\0<=e.2.2/\e.1+e.2.1+e.2.2<=5:=by
 unfold bR kU;simp;omega
theorem Ut {e:fM}(h:bR e=true):Gt e<=5:=by
 have h':=fA h;unfold bR at h;simp only[Qb2]at h;rw[ve h.1.1.1 h.1.1.2 h.1.2];omega
theorem zF {l:List aZ}(hk:Keys l)(hf:Fits l):l.length<=216:=by
 have h1:(l.map fun p=>(36*p.1.1+6*p.1.2.1+p.1.2.2).toNat).Nodup:=by
  unfold Keys at hk;rw[Qr0,Xf1]at hk ⊢;refine(List.Pairwise.and_mem.1 hk).imp ?_;rintro a b ⟨ha,hb,hne⟩ he;apply hne;have h2:=fA (hf a ha);have h3:=fA (hf b hb);have:a.1.1=b.1.1/\a.1.2.1=b.1.2.1/\a.1.2.2=b.1.2.2:=by omega
  obtain⟨⟨x,y,z⟩,q⟩:=a;obtain⟨⟨x',y',z'⟩,q'⟩:=b;simp only at this;obtain⟨rfl,rfl,rfl⟩:=this;rfl
 have h2:=Jo 216 _ h1 (fun x hx=>by
  obtain⟨p,hp,rfl⟩:=Qg2.1 hx;have:=fA (hf p hp);omega)
 simpa using h2
theorem PV.length {S:Nat}{l:List aZ}(h:PV S l):l.length<=216:=zF (jd h.Mg) h.fits
def gu (a b:List aZ):List aZ:=canon (gF [] (a++b))
theorem keys_nil:Keys []:=List.nodup_nil
theorem jK (a b:List aZ)(e:fM):tot (gu a b) e=tot a e+tot b e:=by
 unfold gu;rw[yK,wR keys_nil,jl];simp only[tot];grind
end Fi.S
namespace Fi.S
open Go Fi
set_option maxHeartbeats 8000000
def YI:aG:=f207.body.r.r.l.r.bl.lp
def Oo:aG:=f207.body.r.r.r.r.l.r.bl.lp
def moZ:D:=.a [.v (.int .i64 0),.v (.int .i64 0),.v (.int .i64 0),.v (.bool false),.s 1 [],.s 1 []]
def uf (a b:List D):FV:=.d (.s 1 [.s 6 a,.s 6 b])
def rM (a b:List D)(k acc:Nat)(t:FV):St:=(st0 [uf a b,.u,.d (.v (.int .i64 acc)),.u,.u,.u,uf a b,.d (.v (.int .i64 2)),.d (.v (.int .i64 k)),t,.u,.u,.u,.u,.u] [])
def kX (a b:List D)(k:Nat)(acc:FV)(L:List ae)(t:FV)(dy:Bool:=false):St:={vars:=[.u,.u,.u,.u,acc,.u,.u,.u,.u,.u,.u,uf a b,.d (.v (.int .i64 2)),.d (.v (.int .i64 k)),t],base:=[],loc:=L,aP:=dy}
theorem w1':ah .i64 1=1:=wrap_i64 omK
theorem w2':ah .i64 2=2:=wrap_i64 omK
theorem aff (a b:List D)(h:a.length<=1000000):Ex E0 YI (rM a b 0 0 .u) (.norm,rM a b 1 a.length .u):=by
 have w:ah .i64 (a.length:Int)=a.length:=wrap_i64 omK;have h0:¬ ((a.length:Int)<0):=by omega
 refine Ex.of (n:=60) ?_;unfold rM uf;simp -implicitDefEqProofs[YI,f207,w,h0,w1']
theorem afg (a b:List D)(h:a.length<=1000000)(h':b.length<=1000000):Ex E0 YI (rM a b 1 a.length .u) (.norm,rM a b 2 (a.length+b.length) .u):=by
 have w:ah .i64 ((a.length:Int)+(b.length:Int))=(a.length:Int)+(b.length:Int):=wrap_i64 omK;have h0:¬ ((a.length:Int)+(b.length:Int)<0):=by omega
 refine Ex.of (n:=60) ?_;unfold rM uf;simp only[Int.natCast_add];simp -implicitDefEqProofs[YI,f207,w,h0,w2']
theorem afh (a b:List D)(n:Nat):Ex E0 YI (rM a b 2 n .u) (.exit 0,rM a b 2 n (.d (.v (.bool false)))):=by
 refine Ex.of (n:=60) ?_;unfold rM uf;simp -implicitDefEqProofs[YI,f207]
theorem YJ (a b:List D)(h:a.length<=1000000)(h':b.length<=1000000):Ex E0 (.loop YI) (rM a b 0 0 .u) (.exit 0,rM a b 2 (a.length+b.length) (.d (.v (.bool false)))) :=
 (aff a b h).next ((afg a b h h').next ((afh a b _).leave (by simp)))
theorem aaH (a b:List D)(acc:FV)(L:List ae)(dy:Bool):Ex E0 Oo (kX a b 2 acc L .u dy) (.exit 2,kX a b 2 acc L (.d (.v (.bool false))) dy):=by
 refine Ex.of (n:=60) ?_;unfold kX uf;simp -implicitDefEqProofs[Oo,f207]
theorem Oq (a b:List D)(k:Nat)(hk:k<2)(ha:a=[])(hb:b=[]):Ex E0 Oo (kX a b k (.d (.n 6)) [] .u) (.norm,kX a b (k+1) (.d (.n 6)) [] .u):=by
 subst ha hb;refine Ex.of (n:=60) ?_;unfold kX uf
 match k,hk with
 | 0,_=>simp -implicitDefEqProofs[Oo,f207,w1',most]
 | 1,_=>simp -implicitDefEqProofs[Oo,f207,w2',most]
theorem afi (a b R:List D)(h:a.length<=1000000):Ex E0 Oo (kX a b 0 (.ls (.loc 0) 0 6 0 0) [.row 0 6 R] .u) (.norm,kX a b 1 (.ls (.loc 0) 1 6 0 a.length) [.row 1 6 a] .u):=by
 have h1:a.length*80<=most:=by unfold most;omega
 have h2:a.length<=most:=by unfold most;omega
 refine Ex.of (n:=60) ?_;unfold kX uf;simp -implicitDefEqProofs[Oo,f207,w1',h1,h2]
theorem afj (a b:List D)(h:a.length<=1000000)(h':b.length<=1000000):Ex E0 Oo (kX a b 1 (.ls (.loc 0) 1 6 0 a.length) [.row 1 6 a] .u) (.norm,kX a b 2 (.ls (.loc 0) 2 6 0 (a.length+b.length)) [.row 2 6 (a++b)] .u):=by
 have h1:(a.length+b.length)*80<=most:=by unfold most;omega
 have h2:a.length+b.length<=most:=by unfold most;omega
 refine Ex.of (n:=60) ?_;unfold kX uf;simp -implicitDefEqProofs[Oo,f207,w2',h1,h2]
theorem Uu (n m:Nat)(h0:0<n)(h:n<=2000000):CL E0 (m+100) 258 [.d (.n 6),.d (.v (.int .i64 n))] []=some (.ls (.old 0) 0 6 0 0,some [.row 0 6 (List.replicate n moZ)]):=by
 have w0:ah .i64 0=0:=wrap_i64 omK;have wn:ah .i64 (n:Int)=n:=wrap_i64 omK;have g0:¬ ((n:Int)<0):=by omega
 have g1:(0:Int)<n:=by omega
 have h1:(n:Int)*80<=most:=by unfold most;omega
 have h2:(n:Int)<=most:=by unfold most;omega
 rw[av rfl (k258:E0.fn _=_) rfl];simp -implicitDefEqProofs[f258,FV.aA,ae.aA,kT,Ii,w0,wn,g0,g1,h1,h2,moZ,h0]
theorem Qk (a b:List D)(ha:a.length<=1000000)(hb:b.length<=1000000):∃ o,Ca E0 207 [uf a b] (.d (.s 6 (a++b)),o)/\(o=none\/∃ x,o=some [x]):=by
 have w0:ah .i64 0=0:=wrap_i64 omK;have hA:Ex E0 f207.body.l (st0 [uf a b,.u,.u,.u,.u,.u,.u,.u,.u,.u,.u,.u,.u,.u,.u] []) (.norm,(st0 [uf a b,.u,.u,.u,.u,.u,.u,.u,.u,.u,.u,.u,.u,.u,.u] [])):=by
  refine Ex.of (n:=60) ?_;unfold uf;simp -implicitDefEqProofs[f207]
 have hB:Ex E0 f207.body.r.l (st0 [uf a b,.u,.u,.u,.u,.u,.u,.u,.u,.u,.u,.u,.u,.u,.u] []) (.norm,(st0 [uf a b,.u,.d (.v (.int .i64 0)),.u,.u,.u,.u,.u,.u,.u,.u,.u,.u,.u,.u] [])):=by
  refine Ex.of (n:=60) ?_;unfold uf;simp -implicitDefEqProofs[f207]
 have hC:Ex E0 f207.body.r.r.l.l (st0 [uf a b,.u,.d (.v (.int .i64 0)),.u,.u,.u,.u,.u,.u,.u,.u,.u,.u,.u,.u] []) (.norm,rM a b 0 0 .u):=by
  refine Ex.of (n:=60) ?_;unfold uf rM uf;simp -implicitDefEqProofs[f207]
 have hL:=YJ a b ha hb;have hN:∃ acc L,Ex E0 (.loop Oo) (kX a b 0 acc L .u) (.exit 2,kX a b 2 acc L .u)\/True:=⟨.u,[],.inr trivial⟩
 clear hN
 by_cases hn:a.length+b.length=0
 ·obtain rfl:a=[]:=Qo0 omK;obtain rfl:b=[]:=Qo0 omK;have hD:Ex E0 f207.body.r.r.r.l (rM [] [] 2 (0+0) (.d (.v (.bool false)))) (.norm,(st0 [uf [] [],.u,.u,.u,.d (.n 6),.u,.u,.u,.u,.u,.u,.u,.u,.u,.u] [])):=by
   have t:∀ m,CL E0 (m+100) 258 [.d (.n 6),.d (.v (.int .i64 0))] []=some (.d (.n 6),none):=by
    intro m;rw[av rfl (k258:E0.fn _=_) rfl];simp -implicitDefEqProofs[f258,w0]
   refine Ex.of (n:=200) ?_;unfold rM uf;simp -implicitDefEqProofs[f207,t,FV.aR,FV.aA,ae.aA]
  have hE:Ex E0 f207.body.r.r.r.r.l.l (st0 [uf [] [],.u,.u,.u,.d (.n 6),.u,.u,.u,.u,.u,.u,.u,.u,.u,.u] []) (.norm,kX [] [] 0 (.d (.n 6)) [] .u):=by
   refine Ex.of (n:=60) ?_;unfold uf kX uf;simp -implicitDefEqProofs[f207]
  have hF:Ex E0 f207.body.r.r.r.r.r (kX [] [] 2 (.d (.n 6)) [] (.d (.v (.bool false)))) (.ret,(st0 [.u,.d (.n 6),.u,.u,.u,.u,.u,.u,.u,.u,.u,.u,.u,.u,.u] [])):=by
   refine Ex.of (n:=60) ?_;unfold kX uf;simp -implicitDefEqProofs[f207]
  have hM:Ex E0 (.loop Oo) (kX [] [] 0 (.d (.n 6)) [] .u) (.exit 2,kX [] [] 2 (.d (.n 6)) [] (.d (.v (.bool false)))) :=
   (Oq [] [] 0 omK rfl rfl).next ((Oq [] [] 1 omK rfl rfl).next ((aaH [] [] _ _ _).leave (by simp)))
  refine⟨none,Ca.body (o:=.ret) rfl (k207:E0.fn _=_) rfl ?_ (by intro id h;cases h) (st1:=(st0 [.u,.d (.n 6),.u,.u,.u,.u,.u,.u,.u,.u,.u,.u,.u,.u,.u] [])) ?_,.inl rfl⟩
  ·show Ex E0 (.seq f207.body.l (.seq f207.body.r.l (.seq (.seq f207.body.r.r.l.l (.block 0 (.loop YI))) (.seq f207.body.r.r.r.l (.seq (.seq f207.body.r.r.r.r.l.l (.block 2 (.loop Oo))) f207.body.r.r.r.r.r))))) _ _;exact hA.seq (hB.seq ((hC.seq hL.block).seq (hD.seq ((hE.seq hM.block).seq hF))))
  ·simp -implicitDefEqProofs[f207]
 ·have hD:Ex E0 f207.body.r.r.r.l (rM a b 2 (a.length+b.length) (.d (.v (.bool false)))) (.norm,(st0 [uf a b,.u,.u,.u,.ls (.loc 0) 0 6 0 0,.u,.u,.u,.u,.u,.u,.u,.u,.u,.u] [.row 0 6 (List.replicate (a.length+b.length) moZ)])):=by
   have t:=fun m=>Uu (a.length+b.length) m omK omK
   refine Ex.of (n:=200) ?_;unfold rM uf;generalize a.length+b.length=n at*;generalize List.replicate n moZ=R at*;simp -implicitDefEqProofs[f207,t,FV.aR,FV.aA,ae.aA]
  have hE:Ex E0 f207.body.r.r.r.r.l.l (st0 [uf a b,.u,.u,.u,.ls (.loc 0) 0 6 0 0,.u,.u,.u,.u,.u,.u,.u,.u,.u,.u] [.row 0 6 (List.replicate (a.length+b.length) moZ)]) (.norm,kX a b 0 (.ls (.loc 0) 0 6 0 0) [.row 0 6 (List.replicate (a.length+b.length) moZ)] .u):=by
   refine Ex.of (n:=60) ?_;unfold uf kX uf;generalize List.replicate (a.length+b.length) moZ=R at*;simp -implicitDefEqProofs[f207]
  have hF:Ex E0 f207.body.r.r.r.r.r (kX a b 2 (.ls (.loc 0) 2 6 0 (a.length+b.length)) [.row 2 6 (a++b)] (.d (.v (.bool false)))) (.ret,(st0 [.u,.ls (.loc 0) 2 6 0 (a.length+b.length),.u,.u,.u,.u,.u,.u,.u,.u,.u,.u,.u,.u,.u] ([.row 2 6 (a++b)]))):=by
   refine Ex.of (n:=60) ?_;unfold kX uf;simp -implicitDefEqProofs[f207]
  have hM:Ex E0 (.loop Oo) (kX a b 0 (.ls (.loc 0) 0 6 0 0) [.row 0 6 (List.replicate (a.length+b.length) moZ)] .u) (.exit 2,kX a b 2 (.ls (.loc 0) 2 6 0 (a.length+b.length)) [.row 2 6 (a++b)] (.d (.v (.bool false)))) :=
   (afi a b _ ha).next ((afj a b ha hb).next ((aaH a b _ _ _).leave (by simp)))
  refine⟨none,Ca.body (o:=.ret) rfl (k207:E0.fn _=_) rfl ?_ (by intro id h;cases h) (st1:=(st0 [.u,.ls (.loc 0) 2 6 0 (a.length+b.length),.u,.u,.u,.u,.u,.u,.u,.u,.u,.u,.u,.u,.u] ([.row 2 6 (a++b)]))) ?_,.inl rfl⟩
  ·show Ex E0 (.seq f207.body.l (.seq f207.body.r.l (.seq (.seq f207.body.r.r.l.l (.block 0 (.loop YI))) (.seq f207.body.r.r.r.l (.seq (.seq f207.body.r.r.r.r.l.l (.block 2 (.loop Oo))) f207.body.r.r.r.r.r))))) _ _;exact hA.seq (hB.seq ((hC.seq hL.block).seq (hD.seq ((hE.seq hM.block).seq hF))))
  ·have e1:ae.view 2 6 0 (a.length+b.length) (.row 2 6 (a++b))=some (a++b):=by
    have:List.take (a.length+b.length) (a++b)=a++b:=by rw[<-Qb0,Qn1]
    simp[ae.view,this]
   clear hA hB hC hL hD hE hF hM hn;simp -implicitDefEqProofs[f207,e1,FV.aA,ae.aA]
def aT (l:List aZ):D:=.s 6 (l.map fun p=>qC p.1 p.2)
def uO (p:aZ):Mo:=⟨p.1,qs p.2,qn p.2,qd p.2⟩
theorem Gw (l:List aZ):aT l=PD (l.map uO):=by
 unfold aT PD;rw[Q42];rfl
theorem Uv {l:List aZ}:nZ l=aT (canon l):=by
 unfold nZ aT canon;have h1:l.flatMap ek=(l.filter fun p=>decide (p.2≠0)).map fun p=>qC p.1 p.2:=by
  induction l with
  | nil=>rfl
  | cons p r ih =>
   by_cases hp:p.2=0
   ·rw[Xf2 (by simpa using hp)];simp[Xc2,ek,hp,ih]
   ·rw[Xg0 (by simpa using hp)];simp[Xc2,ek,hp,ih]
 rw[h1,<-List.map_mergeSort (r:=fun a b => !kV b.1 a.1)];intro a _ b _;rfl
theorem YK {S:Nat}{l:List aZ}(h:Bd S l){e:fM}{y:Rat}(hy:lJ l e=some y):qz y<=S:=h _ (Cf hy)
def paL:aG:=f155.body.r.r.l.r.bl.lp
def Ql (es:List D)(k:Nat)(L:List ae)(t:FV):St:=(st0 [.u,.u,.u,.m (.loc 0),.u,.d (.s 6 es),.d (.v (.int .i64 es.length)),.d (.v (.int .i64 k)),t] L)
theorem Uw (es:List D)(k:Nat)(L:List ae)(l:List aZ)(p:aZ)(hn:es.length<=1000000)(hk:es[k]?=some (qC p.1 p.2))(hL:L[0]?=some (.map (l.map iV)))(hp:qz p.2<=50000)(hl:Bd 50000 l)(hf:bR p.1=true) :
  ∃ L',Ex E1 paL (Ql es k L .u) (.norm,Ql es (k+1) L' .u)/\L'[0]?=some (.map ((qU l p.1 p.2).map iV)):=by
 obtain⟨e,x⟩:=p;have hkl:k<es.length:=(bD hk)
 have hB:(List.map (ae.aA 0) (L++[ae.box [.d (.v (.int .i64 e.1)),.d (.v (.int .i64 e.2.1)),.d (.v (.int .i64 e.2.2)),.d (.v (.bool (qs x))),.d (LD (qn x)),.d (LD (qd x))]]))[0]?=some (.map (l.map iV)):=by
  cases L with
  | nil=>cases hL
  | cons o r=>simp only[Qw0,Qe0]at hL;subst hL;rfl
 obtain⟨N,B',t,hlen,hB'⟩:=Jk _ 0 l hB e x hp (fun y hy=>YK hl hy) (Ut hf);refine⟨B',Ex.of (n:=N+200) ?_,hB'⟩;have bz:ah .i64 ((k:Int)+1)=(k:Int)+1:=wrap_i64 omK;have hk1:((k+1:Nat):Int)=(k:Int)+1:=by omega
 have hk0:(0:Int)<=(k:Int):=by omega
 have hkc:(k:Int)<(es.length:Int):=by omega
 clear hB hB' hlen hp hl hf;obtain⟨a,b,c⟩:=e;unfold Ql;rw[hk1];simp only[qC,Ai,lM,qD,raw]at*;generalize qs x=s at*;simp only[LD]at*;generalize LL (qn x)=ns,LL (qd x)=ds at*;have i1:=idx hk;simp only[Qq0,Qd2,Qc0,ae.aA,FV.aR,FV.aA]at t;simp -implicitDefEqProofs[paL,f155,bz,hk0,hkc,hk,i1,t,FV.aA,FV.aR,ae.aA]
theorem Ux {ms:List aZ}{k:Nat}{p:aZ}(h:ms[k]?=some p):gF [] (ms.take (k+1))=qU (gF [] (ms.take k)) p.1 p.2:=by
 rw[Q01,h];show gF [] (ms.take k++[p])=_;rw[Jn];rfl
theorem YL (ms:List aZ)(L:List ae)(S:Nat)(hn:ms.length<=1000000)(hL:L[0]?=some (.map []))(hf:Fits ms)(hb:Bd S ms)(hS:S<=50000)(hm:ms.length*(S+1)<=50000) :
  ∃ L',Ex E1 (.loop paL) (Ql (ms.map fun p=>qC p.1 p.2) 0 L .u) (.exit 0,Ql (ms.map fun p=>qC p.1 p.2) ms.length L' (.d (.v (.bool false))))/\L'[0]?=some (.map ((gF [] ms).map iV)):=by
 have hlen:(ms.map fun p=>qC p.1 p.2).length=ms.length:=by simp
 obtain⟨r,h1,L',h2,h3⟩:=Ex.inv (E:=E1) (b:=paL) (α:=Nat × List ae) (S:=fun a=>Ql (ms.map fun p=>qC p.1 p.2) a.1 a.2 .u) (fun a=>ms.length-a.1)
  (fun a=>a.1<=ms.length/\a.2[0]?=some (.map ((gF [] (ms.take a.1)).map iV))) (fun r=>∃ L',r=(.exit 0,Ql (ms.map fun p=>qC p.1 p.2) ms.length L' (.d (.v (.bool false))))/\L'[0]?=some (.map ((gF [] ms).map iV))) (by
   rintro⟨k,L⟩ ⟨q1,q2⟩;simp only at q1 q2
   by_cases hk:k<ms.length
   ·have hp:ms[k]?=some ms[k]:=Qa0 hk;have hpm:ms[k] ∈ ms:=Qi2 hk;have hp2:(ms.map fun p=>qC p.1 p.2)[k]?=some (qC ms[k].1 ms[k].2):=by rw[Qb1,hp];rfl
    have hbd:Bd 50000 (gF [] (ms.take k)):=by
     refine(Mf (S:=0) (T:=S) (fun p hp=>by cases hp) (fun p hp=>hb p (Qp0 hp))).mono ?_;rw[Qr1,Qx1];exact Qc2 (Qe1 _ (Nat.min_le_right _ _)) hm
    obtain⟨L',g1,g2⟩:=Uw _ k L _ ms[k] (by rw[hlen];exact hn) hp2 q2 (Qc2 (hb _ hpm) hS) hbd (hf _ hpm);refine .inl ⟨(k+1,L'),g1,by show ms.length-(k+1)<ms.length-k;omega,by show k+1<=_;omega,?_⟩;show L'[0]?=some (.map ((gF [] (ms.take (k+1))).map iV));rw[Ux hp];exact g2
   ·obtain rfl:k=ms.length:=by omega
    rw[Qn1]at q2;refine .inr ⟨_,Ex.of (n:=60) ?_,?_,L,rfl,q2⟩
    ·simp only[Ql,hlen];generalize (ms.map fun p=>qC p.1 p.2)=es,ms.length=n at*;simp -implicitDefEqProofs[paL,f155]
    ·simp) (0,L) ⟨Q02 _,hL⟩
 subst h2;exact⟨L',h1,h3⟩
theorem AR {S:Nat}:∀ {l:List aZ} {q:Option Mo},PV S l->(∀ m,q=some m->∀ p ∈ l,kV m.e p.1=true)->zA q (l.map uO)=true
 | [],_,_,_=>by simp[zA]
 | p::l,q,h,hq=>by
  have hs:=Qk1.1 h.Mg;have hfit:(uO p).fits=true:=by
   unfold Mo.fits uO;have h1:=h.fits p (Qj1 ..);have h2:qn p.2≠[]:=by
    have h3:=h.nz p (Qj1 ..);intro h4;have h5:p.2.num.natAbs=0:=by
     have:=aV (p.2.num.natAbs);unfold qn at h4;rw[h4]at this;simpa[val] using this.symm
    exact h3 (Rat.num_eq_zero.1 (Xt1.1 h5))
   simp[h1,h2,tQ]
  have hr:zA (some (uO p)) (l.map uO)=true:=AR (S:=S) ⟨hs.2,fun x hx=>h.nz x (Qh0 _ hx),fun x hx=>h.fits x (Qh0 _ hx),fun x hx=>h.bd x (Qh0 _ hx)⟩ (fun m hm x hx=>by cases hm;exact hs.1 x hx);cases q with
  | none=>simp only[Qd2,zA,hfit,hr,Bool.and_self]
  | some m =>
   have h6:jb m.e (uO p).e<0:=of_decide_eq_true (hq m rfl p (Qj1 ..));simp only[Qd2,zA,hfit,hr,decide_eq_true h6,Bool.and_self]
theorem Uy {S:Nat}{l:List aZ}(h:PV S l)(hS:S<=1000):Po (l.map uO):=by
 refine⟨fun m hm => ?_,by have:=h.length;simp;omega⟩;obtain⟨p,hp,rfl⟩:=Qg2.1 hm;have hb:=h.bd p hp;have h1:(qn p.2).length<=qz p.2:=Q11 _ _;have h2:(qd p.2).length<=qz p.2:=by
  unfold qd;split
  ·simp
  ·exact Q00 _ _
 exact⟨Gi _,Gj _,Qc2 h1 (Qc2 hb hS),Qc2 h2 (Qc2 hb hS)⟩
theorem E9 {S:Nat}{l:List aZ}(h:PV S l)(hS:S<=1000):Ca E1 208 [.d (aT l)] (.d (aT l),none):=by
 have h1:=ER _ (Uy h hS);rw[AR h (fun m hm=>by cases hm),<-Gw]at h1;obtain⟨N,t⟩:=(Ca.fP h1).get;refine Ca.bO (n:=N+60) ?_;rw[av rfl (k208:E1.fn _=_) rfl];unfold aT at*;generalize (l.map fun p=>qC p.1 p.2)=es at*;simp -implicitDefEqProofs[f208,t]
theorem Mh {S:Nat}{ms:List aZ}(hf:Fits ms)(hb:Bd S ms)(hm:ms.length*(S+1)<=50000):vD (gF [] ms)=true:=by
 have hk:Keys (gF [] ms):=wQ keys_nil;have hF:Fits (gF [] ms):=wS (fun p hp=>by cases hp) hf;have hB:Bd (0+ms.length*(S+1)) (gF [] ms):=Mf (fun p hp=>by cases hp) hb;have hl:=zF hk hF;unfold vD;simp only[Qb2,decide_eq_true_eq,Qf2];exact⟨⟨hk,fun p hp=>by have:=hB p hp;omega⟩,by omega⟩
theorem Qm {S:Nat}{L:List ae}{ms:List aZ}(hL:L[0]?=some (.map ((gF [] ms).map iV)))(hf:Fits ms)(hb:Bd S ms)(hm:ms.length*(S+1)<=50000)(m:Nat) :
  CL E1 m 206 [.m (.old 0)] (List.map (ae.aA 0) L)=some (.d (aT (canon (gF [] ms))),none):=by
 have hB:(List.map (ae.aA 0) L)[0]?=some (.map ((gF [] ms).map iV)):=by rw[Qb1,hL];rfl
 rw[EY m 0 _ _ hB (Mh hf hb hm),Uv]
theorem YM {S:Nat}{a b:List aZ}(ha:PV S a)(hb:PV S b)(hS:S<=1000)(hm:(a++b).length*(S+1)<=50000):Ca E1 155 [.d (aT a),.d (aT b)] (.d (aT (gu a b)),none):=by
 have hf:Fits (a++b):=fun p hp=>by
  rcases Qw2.1 hp with hp|hp
  ·exact ha.fits p hp
  ·exact hb.fits p hp
 have hB:Bd S (a++b):=fun p hp=>by
  rcases Qw2.1 hp with hp|hp
  ·exact ha.bd p hp
  ·exact hb.bd p hp
 have la:=ha.length;have lb:=hb.length;have hlen:(a++b).length<=1000000:=by rw[Qb0];omega
 obtain⟨N1,t1⟩:=(E9 ha hS).any;obtain⟨N2,t2⟩:=(E9 hb hS).any;obtain⟨o,hc,ho⟩:=Qk (a.map fun p=>qC p.1 p.2) (b.map fun p=>qC p.1 p.2) (by simp;omega) (by simp;omega);obtain⟨N3,t3⟩:=(Ca.fP hc).any;obtain⟨M,hM⟩:∃ M,M=N1+N2+N3:=⟨_,rfl⟩
 replace t1:=t1 M omK;replace t2:=t2 M omK;replace t3:=t3 M omK;have e1:(a.map fun p=>qC p.1 p.2)++(b.map fun p=>qC p.1 p.2)=(a++b).map fun p=>qC p.1 p.2:=by simp
 rw[e1]at t3;have hAB:Ex E1 f155.body.l (st0 [.d (aT a),.d (aT b),.u,.u,.u,.u,.u,.u,.u] []) (.norm,(st0 [.d (aT a),.d (aT b),.u,.u,.u,.u,.u,.u,.u] [])):=by
  refine Ex.of (n:=60) ?_;generalize aT a=x1;generalize aT b=x2;simp -implicitDefEqProofs[f155]
 have hMk:Ex E1 f155.body.r.l (st0 [.d (aT a),.d (aT b),.u,.u,.u,.u,.u,.u,.u] []) (.norm,(st0 [.d (aT a),.d (aT b),.u,.m (.loc 0),.u,.u,.u,.u,.u] [.map []])):=by
  refine Ex.of (n:=60) ?_;generalize aT a=x1;generalize aT b=x2;simp -implicitDefEqProofs[f155]
 have hC:∃ L,L[0]?=some (.map [])/\Ex E1 f155.body.r.r.l.l (st0 [.d (aT a),.d (aT b),.u,.m (.loc 0),.u,.u,.u,.u,.u] [.map []]) (.norm,Ql ((a++b).map fun p=>qC p.1 p.2) 0 L .u):=by
  rcases ho with rfl|⟨x,rfl⟩
  ·refine⟨[.map []],rfl,Ex.of (n:=M+100) ?_⟩;unfold aT Ql uf at*;generalize ((a++b).map fun p=>qC p.1 p.2)=es,(a.map fun p=>qC p.1 p.2)=es1,(b.map fun p=>qC p.1 p.2)=es2 at*;simp -implicitDefEqProofs[f155,t1,t2,t3]
  ·refine⟨[.map [],ae.shift 1 x],rfl,Ex.of (n:=M+100) ?_⟩;unfold aT Ql uf at*;generalize ((a++b).map fun p=>qC p.1 p.2)=es,(a.map fun p=>qC p.1 p.2)=es1,(b.map fun p=>qC p.1 p.2)=es2 at*;simp -implicitDefEqProofs[f155,t1,t2,t3]
 obtain⟨L,hL,hC⟩:=hC;obtain⟨L',hl,hL'⟩:=YL (a++b) L S hlen hL hf hB omK hm;have t4:=fun m=>Qm hL' hf hB hm m
 have Ot:aT (canon (gF [] (a++b)))=aT (gu a b):=rfl;rw[Ot]at t4;have hD:Ex E1 f155.body.r.r.r (Ql ((a++b).map fun p=>qC p.1 p.2) (a++b).length L' (.d (.v (.bool false)))) (.ret,(st0 [.u,.u,.d (aT (gu a b)),.u,.u,.u,.u,.u,.u] (L'))):=by
  refine Ex.of (n:=100) ?_;unfold aT Ql at*;generalize ((a++b).map fun p=>qC p.1 p.2)=es,((gu a b).map fun p=>qC p.1 p.2)=es1 at*;simp -implicitDefEqProofs[f155,t4,FV.aA,FV.aR]
 refine Ca.body (o:=.ret) (st1:=(st0 [.u,.u,.d (aT (gu a b)),.u,.u,.u,.u,.u,.u] (L'))) rfl (k155:E1.fn _=_) rfl ?_ (by intro id h;cases h) ?_
 ·show Ex E1 (.seq f155.body.l (.seq f155.body.r.l (.seq (.seq f155.body.r.r.l.l (.block 0 (.loop paL))) f155.body.r.r.r))) _ _;exact hAB.seq (hMk.seq ((hC.seq hl.block).seq hD))
 ·unfold aT;generalize ((gu a b).map fun p=>qC p.1 p.2)=es1 at*;simp -implicitDefEqProofs[f155]
def m_ (p:aZ):ae:=.box [.d (.v (.int .i64 p.1.1)),.d (.v (.int .i64 p.1.2.1)),.d (.v (.int .i64 p.1.2.2)),.d (.v (.bool (qs p.2))),.d (LD (qn p.2)),.d (LD (qd p.2))]
def gG (a b:fM):fM:=(a.1+b.1,a.2.1+b.2.1,a.2.2+b.2.2)
def rO (p:aZ)(b:List aZ):List aZ:=(b.map fun q=>(gG p.1 q.1,p.2*q.2)).filter fun x=>bR x.1
def gH (a b:List aZ):List aZ:=a.flatMap fun p=>rO p b
theorem Gx (p:aZ)(b:List aZ):(rO p b).length<=b.length:=by
 unfold rO;exact Qc2 (Xq1 _ _) (by simp)
theorem Mi (p:aZ)(b:List aZ):Fits (rO p b):=fun x hx=>(Qz1.1 hx).2
theorem Gy (a b:List aZ):(gH a b).length<=a.length*b.length:=by
 induction a with
 | nil=>simp[gH]
 | cons p r ih =>
  have h1:gH (p::r) b=rO p b++gH r b:=by simp[gH]
  have h2:=Gx p b;rw[h1,Qb0,Qe2,Qq1];omega
theorem Mj (a b:List aZ):Fits (gH a b):=fun x hx=>by
 obtain⟨p,_,hx⟩:=Xz0.1 hx;exact Mi p b x hx
def iH (a b:List aZ):List aZ:=canon (gF [] (gH a b))
end Fi.S
namespace Fi.S
open Go Fi
theorem ug:∀ {l:List aZ},Keys l->∀ {p:aZ},p ∈ l->tot l p.1=p.2
 | [],_,_,hp=>by cases hp
 | (a,y)::r,h,p,hp=>by
  unfold Keys at h;simp only[Qd2,X1]at h;rcases Qi1.1 hp with h0|hp2
  ·subst h0;have hr:∀ x ∈ r,x.1≠a:=fun x hx he=>h.1 (he ▸ Qg2.2 ⟨x,hx,rfl⟩)
   simp only[tot,if_true,kN hr];grind
  ·have h1:¬ a=p.1:=fun he=>h.1 (he ▸ Qg2.2 ⟨p,hp2,rfl⟩)
   simp only[tot,if_neg h1,ug h.2 hp2];grind
theorem Cg {S:Nat}(hS:1<=S){l:List aZ}(h:Keys l)(hb:Bd S l)(e:fM):qz (tot l e)<=S:=by
 cases hg:lJ l e with
 | none =>
  rw[kN (Qj hg)];exact Qc2 jJ hS
 | some y =>
  have h1:=Cf hg;have h2:=ug h h1;simp only at h2;rw[h2];exact hb _ h1
theorem Jp {S:Nat}{l:List aZ}(hk:Keys l)(hf:Fits l)(hb:∀ e,qz (tot l e)<=S):PV S (canon l):=by
 refine⟨E8 hk,Uq l,fun p hp=>hf p (E5.1 hp).1,fun p hp => ?_⟩;have:=ug (jd (E8 hk)) hp;rw[yK]at this;rw[<-this];exact hb _
theorem wT (l:List aZ):(canon l).length<=l.length:=by
 unfold canon;rw[List.length_mergeSort];exact Xq1 _ _
theorem gI {S T:Nat}(hS:1<=S)(hT:1<=T){a b:List aZ}(ha:PV S a)(hb:PV T b):PV (S+T+1) (gu a b):=by
 refine Jp (wQ keys_nil) (wS (fun p hp=>by cases hp) ?_) fun e => ?_
 ·intro p hp;rcases Qw2.1 hp with hp|hp
  ·exact ha.fits p hp
  ·exact hb.fits p hp
 ·have h1:tot (gF [] (a++b)) e=tot a e+tot b e:=by
   rw[wR keys_nil,jl];simp only[tot];grind
  rw[h1];have h2:=oV (tot a e) (tot b e);have h3:=Cg hS (jd ha.Mg) ha.bd e;have h4:=Cg hT (jd hb.Mg) hb.bd e;omega
theorem zG (a b:List aZ):(gu a b).length<=a.length+b.length:=by
 have h1:=wT (gF [] (a++b));have h2:=vG (ms:=a++b) (l:=[]);rw[Qb0]at h2;show(canon (gF [] (a++b))).length<=_;simp only[Qr2]at h2;omega
theorem zH (a b:List aZ):(iH a b).length<=a.length*b.length:=by
 have h1:=wT (gF [] (gH a b));have h2:=vG (ms:=gH a b) (l:=[]);have h3:=Gy a b;show(canon (gF [] (gH a b))).length<=_;simp only[Qr2]at h2;omega
theorem Mk {p:aZ}{b:List aZ}(hb:Keys b):Keys (rO p b):=by
 have h1:Keys (b.map fun q=>(gG p.1 q.1,p.2*q.2)):=by
  unfold Keys at*;rw[Qr0,Xf1]at hb;rw[Q42,Qr0,Xf1];refine hb.imp ?_;intro x y hne he;apply hne;simp only[Function.comp,gG,Qm2]at he;obtain⟨⟨a,b,c⟩,_⟩:=x;obtain⟨⟨a',b',c'⟩,_⟩:=y;simp only at he;simp only[Qm2];omega
 unfold Keys rO at*;exact Xu0 (List.filter_sublist.map _) h1
theorem wU {S T:Nat}(hS:1<=S){b:List aZ}(hb:PV T b)(e:fM):∀ {a:List aZ},Bd S a->qz (tot (gH a b) e)<=a.length*(S+T+1)+1
 | [],_=>by
  have:=jJ;simp only[gH,List.flatMap_nil,tot,Qr2];omega
 | p::a,ha=>by
  have h1:gH (p::a) b=rO p b++gH a b:=by simp[gH]
  rw[h1,jl];have h2:=oV (tot (rO p b) e) (tot (gH a b) e);have h3:=wU hS hb e (a:=a) (fun x hx=>ha x (Qh0 _ hx));have h4:Bd (S+T) (rO p b):=by
   intro x hx;obtain⟨hx,_⟩:=Qz1.1 hx;obtain⟨q,hq,rfl⟩:=Qg2.1 hx;have g1:=BA p.2 q.2;have g2:=hb.bd q hq;have g3:=ha p (Qj1 ..);show qz (p.2*q.2)<=_;omega
  have h5:=Cg omK (Mk (jd hb.Mg)) h4 e;rw[Qe2,Qq1];omega
theorem wV (a b:List aZ)(e:fM):tot (iH a b) e=tot (gH a b) e:=by
 unfold iH;rw[yK,wR keys_nil];simp only[tot];grind
theorem h_ {S T:Nat}(hS:1<=S){a b:List aZ}(ha:PV S a)(hb:PV T b):PV (a.length*(S+T+1)+1) (iH a b):=by
 refine Jp (wQ keys_nil) (wS (fun p hp=>by cases hp) (Mj a b)) fun e => ?_
 have h1:tot (gF [] (gH a b)) e=tot (gH a b) e:=by
  rw[wR keys_nil];simp only[tot];grind
 rw[h1];exact wU hS hb e ha.bd
end Fi.S
