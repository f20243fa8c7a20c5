import Derived.Test.YtbbogkfadofneaaGreatDoorCH
import Derived.Test.YtbbogkfadofneaaGreatDoorCF
set_option linter.unusedVariables false
set_option linter.unusedSimpArgs false
noncomputable section
namespace Fi.S
open Go Fi
abbrev fT:Type:=Int × Int × Int
def tot:List a_->fT->Rat
 | [],_=>0
 | (a,y)::r,e=>(if a=e then y else 0)+tot r e
theorem jq (a b:List a_)(e:fT):tot (a++b) e=tot a e+tot b e:=by
 induction a with
 | nil=>simp[tot,Rat.zero_add]
 | cons p r ih=>simp only[Xa2,tot,ih];grind
theorem Ud {a b:List a_}(h:a.Perm b)(e:fT):tot a e=tot b e:=by
 induction h with
 | nil=>rfl
 | cons p _ ih=>simp only[tot,ih]
 | swap p q l=>simp only[tot];grind
 | trans _ _ h1 h2=>rw[h1,h2]
theorem kL {l:List a_}{e:fT}(h:∀ p ∈ l,p.1≠e):tot l e=0:=by
 induction l with
 | nil=>rfl
 | cons p r ih =>
  have h1:=h p (Qj0 ..);have h2:=ih (fun q hq=>h q (Qf1 _ hq));simp only[tot,if_neg h1,h2];grind
theorem LQ (l:List a_)(e:fT):tot (l.filter fun p=>decide (p.2≠0)) e=tot l e:=by
 induction l with
 | nil=>rfl
 | cons p r ih =>
  obtain⟨a,y⟩:=p
  by_cases hy:y=0
  ·subst hy;rw[Xb1 aA];simp only[tot,ih]
   by_cases h:a=e<;>simp[h,Rat.zero_add]
  ·rw[Xb2 (by simpa using hy)];simp only[tot,ih]
theorem PZ {l:List a_}{e:fT}(h:lK l e=none):∀ p ∈ l,p.1≠e:=by
 induction l with
 | nil=>intro p hp;cases hp
 | cons q r ih =>
  intro p hp;unfold lK at h;split at h
  ·cases h
  ·rename_i hne;rcases Qi2.1 hp with rfl|hp
   ·exact fun he=>hne he.symm
   ·exact ih h p hp
theorem BV {l:List a_}{e:fT}{y:Rat}(h:lK l e=some y):(e,y) ∈ l:=by
 induction l with
 | nil=>cases h
 | cons q r ih =>
  unfold lK at h;split at h
  ·rename_i he;cases h;subst he;exact Qj0 ..
  ·exact Qf1 _ (ih h)
theorem Ue {l:List a_}{e:fT}{y:Rat}{p:a_}(h:p ∈ uZ l e y):p=(e,y)\/p ∈ l:=by
 induction l with
 | nil=>simp only[uZ,Qz0]at h;exact .inl h
 | cons q r ih =>
  unfold uZ at h;split at h
  ·rcases Qi2.1 h with rfl|h
   ·exact .inl rfl
   ·exact .inr (Qf1 _ h)
  ·rcases Qi2.1 h with rfl|h
   ·exact .inr (Qj0 ..)
   ·rcases ih h with h|h
    ·exact .inl h
    ·exact .inr (Qf1 _ h)
theorem EP (l:List a_)(e:fT)(y:Rat):(uZ l e y).map (·.1)=l.map (·.1)\/((∀ p ∈ l,p.1≠e)/\(uZ l e y).map (·.1)=l.map (·.1)++[e]):=by
 induction l with
 | nil=>exact .inr ⟨aA,rfl⟩
 | cons q r ih =>
  obtain⟨a,x⟩:=q;unfold uZ
  by_cases h:e=a
  ·subst h;left;simp
  ·rw[if_neg h];rcases ih with ih|⟨h1,ih⟩
   ·left;simp only[Qe2,ih]
   ·right
    refine⟨fun p hp => ?_,by simp only[Qe2,ih,Xa2]⟩;rcases Qi2.1 hp with rfl|hp
    ·exact fun he=>h he.symm
    ·exact h1 p hp
def Keys (l:List a_):Prop:=(l.map (·.1)).Nodup
theorem Uf {l:List a_}(h:Keys l)(e:fT)(y:Rat):Keys (uZ l e y):=by
 unfold Keys at*;rcases EP l e y with h1|⟨h1,h2⟩
 ·rw[h1];exact h
 ·rw[h2,List.nodup_append];refine⟨h,aA,?_⟩;intro a ha b hb;simp only[Qz0]at hb;subst hb;obtain⟨p,hp,rfl⟩:=Qi1.1 ha;exact h1 p hp
theorem YK {l:List a_}(h:Keys l)(e:fT)(y:Rat)(e':fT):tot (uZ l e y) e'=if e=e' then y else tot l e':=by
 induction l with
 | nil=>simp only[uZ,tot];split<;>grind
 | cons q r ih =>
  obtain⟨a,x⟩:=q;unfold Keys at h ih;simp only[Qe2,List.nodup_cons]at h;have hr:∀ p ∈ r,p.1≠a:=fun p hp he=>h.1 (he ▸ Qi1.2 ⟨p,hp,rfl⟩)
  unfold uZ
  by_cases he:e=a
  ·subst he;rw[if_pos rfl];simp only[tot]
   by_cases h2:e=e'
   ·subst h2;simp only[if_pos,kL hr];grind
   ·simp only[if_neg h2]
  ·rw[if_neg he];simp only[tot,ih h.2]
   by_cases h2:e=e'
   ·subst h2;have:¬ a=e:=fun h3=>he h3.symm
    simp only[if_neg this,if_true];grind
   ·simp only[if_neg h2]
theorem Ug {l:List a_}(h:Keys l)(e:fT):(lK l e).getD 0=tot l e:=by
 induction l with
 | nil=>rfl
 | cons q r ih =>
  obtain⟨a,x⟩:=q;unfold Keys at h ih;simp only[Qe2,List.nodup_cons]at h;have hr:∀ p ∈ r,p.1≠a:=fun p hp he=>h.1 (he ▸ Qi1.2 ⟨p,hp,rfl⟩)
  unfold lK
  by_cases he:e=a
  ·subst he;simp only[if_true,Q51,tot,kL hr];grind
  ·have h2:¬ a=e:=fun h3=>he h3.symm
   rw[if_neg he];simp only[tot,if_neg h2,ih h.2];grind
theorem I9 {l:List a_}(h:Keys l)(e:fT)(c:Rat):Keys (qR l e c):=Uf h e _
theorem YL {l:List a_}(h:Keys l)(e:fT)(c:Rat)(e':fT):tot (qR l e c) e'=tot l e'+if e=e' then c else 0:=by
 unfold qR;rw[YK h,Ug h]
 by_cases h2:e=e'
 ·subst h2;simp
 ·simp only[if_neg h2];grind
theorem eH (e:fT):kU e e=false:=by
 cases h:kU e e with
 | false=>rfl
 | true=>rw[lV]at h;omega
theorem oG {a b c:fT}(h1:kU a b=true)(h2:kU b c=true):kU a c=true:=by
 rw[lV]at*;omega
def Srt (l:List a_):Prop:=l.Pairwise fun a b=>kU a.1 b.1=true
def Nz (l:List a_):Prop:=∀ p ∈ l,p.2≠0
theorem jg {l:List a_}(h:Srt l):Keys l:=by
 unfold Keys;rw[Xd0,Xn2];refine h.imp ?_;intro a b hab he;rw[he,eH]at hab;cases hab
theorem NZ:∀ {l m:List a_},Srt l->Srt m->Nz l->Nz m->(∀ e,tot l e=tot m e)->l=m
 | [],[],_,_,_,_,_=>rfl
 | [],(b,y)::m,_,hm,_,hn,h=>by
  have h1:=h b;have h2:tot m b=0:=kL fun p hp he=>by
   have:=(Qq1.1 hm).1 p hp;rw[he,eH]at this;cases this
  have h3:=hn (b,y) (Qj0 ..);simp only[tot,if_true,h2]at h1;grind
 | (a,x)::l,[],hl,_,hn,_,h=>by
  have h1:=h a;have h2:tot l a=0:=kL fun p hp he=>by
   have:=(Qq1.1 hl).1 p hp;rw[he,eH]at this;cases this
  have h3:=hn (a,x) (Qj0 ..);simp only[tot,if_true,h2]at h1;grind
 | (a,x)::l,(b,y)::m,hl,hm,hn,hk,h=>by
  have hl':=Qq1.1 hl;have hm':=Qq1.1 hm;have zl:∀ e,(e=a\/kU e a=true)->tot l e=0:=fun e he=>kL fun p hp hpe=>by
   have h1:=hl'.1 p hp;simp only at h1;rw[hpe]at h1;rcases he with rfl|he
   ·rw[eH]at h1;cases h1
   ·have:=oG h1 he;rw[eH]at this;cases this
  have zm:∀ e,(e=b\/kU e b=true)->tot m e=0:=fun e he=>kL fun p hp hpe=>by
   have h1:=hm'.1 p hp;simp only at h1;rw[hpe]at h1;rcases he with rfl|he
   ·rw[eH]at h1;cases h1
   ·have:=oG h1 he;rw[eH]at this;cases this
  have hx:=hn (a,x) (Qj0 ..);have hy:=hk (b,y) (Qj0 ..);have hab:a=b:=by
   cases h1:kU a b with
   | true =>
    have e1:=h a;have hne:¬ b=a:=fun h2=>by rw[h2,eH]at h1;cases h1
    simp only[tot,if_true,if_neg hne,zl a (.inl rfl),zm a (.inr h1)]at e1;grind
   | false =>
    cases h2:kU b a with
    | true =>
     have e1:=h b;have hne:¬ a=b:=fun h3=>by rw[h3,eH]at h2;cases h2
     simp only[tot,if_true,if_neg hne,zm b (.inl rfl),zl b (.inr h2)]at e1;grind
    | false=>exact j6 h1 h2
  subst hab;have hxy:x=y:=by
   have e1:=h a;simp only[tot,if_true,zl a (.inl rfl),zm a (.inl rfl)]at e1;grind
  subst hxy;have:l=m:=NZ hl'.2 hm'.2 (fun p hp=>hn p (Qf1 _ hp)) (fun p hp=>hk p (Qf1 _ hp)) (fun e=>by
   have e1:=h e;simp only[tot]at e1;grind)
  rw[this]
def canon (l:List a_):List a_:=(l.filter fun p=>decide (p.2≠0)).mergeSort fun a b => !kU b.1 a.1
theorem yz (l:List a_)(e:fT):tot (canon l) e=tot l e:=by
 unfold canon;rw[Ud (Q21 _ _),LQ]
theorem ER {l:List a_}{p:a_}:p ∈ canon l↔p ∈ l/\p.2≠0:=by
 unfold canon;rw[(Q21 _ _).mem_iff];simp
theorem Uh (l:List a_):Nz (canon l):=fun p hp=>(ER.1 hp).2
theorem ES {l:List a_}(h:Keys l):Srt (canon l):=by
 have h1:((canon l).map (·.1)).Nodup:=by
  have hp:(canon l).Perm (l.filter fun p=>decide (p.2≠0)):=Q21 _ _;refine((hp.map (·.1)).nodup_iff).2 ?_;exact Xt1 (List.filter_sublist.map _) h
 have h2:(canon l).Pairwise fun a b=>(!kU b.1 a.1)=true:=by
  refine Xv0 (fun a b c hab hbc => ?_) (fun a b => ?_) _
  ·simp only[Qs2,Bool.not_eq_eq_eq_not,Xi2]at*;cases h3:kU c.1 a.1 with
   | false=>rfl
   | true =>
    cases h4:kU b.1 c.1 with
    | true=>have:=oG h4 h3;rw[this]at hab;cases hab
    | false =>
     have:=j6 h4 hbc;rw[this]at hab;rw[hab]at h3;cases h3
  ·cases h3:kU b.1 a.1 with
   | false=>rfl
   | true =>
    cases h4:kU a.1 b.1 with
    | false=>rfl
    | true=>have:=oG h3 h4;rw[eH]at this;cases this
 rw[Xd0,Xn2]at h1;refine(h1.and h2).imp ?_;rintro a b ⟨hne,hle⟩;simp only[Qs2,Bool.not_eq_eq_eq_not,Xi2]at hle;cases h3:kU a.1 b.1 with
 | true=>rfl
 | false=>exact absurd (j6 h3 hle) hne
def gM (l ms:List a_):List a_:=ms.foldl (fun s p=>qR s p.1 p.2) l
theorem yA (l:List a_)(p:a_)(ms:List a_):gM l (p::ms)=gM (qR l p.1 p.2) ms:=rfl
theorem I_ (l a b:List a_):gM l (a++b)=gM (gM l a) b:=by simp[gM,Xj1]
theorem wH:∀ {ms l:List a_},Keys l->Keys (gM l ms)
 | [],_,h=>h
 | p::ms,l,h=>wH (ms:=ms) (I9 h p.1 p.2)
theorem wJ:∀ {ms l:List a_},Keys l->∀ e,tot (gM l ms) e=tot l e+tot ms e
 | [],l,h,e=>by simp only[gM,List.foldl_nil,tot];grind
 | p::ms,l,h,e=>by
  rw[yA,wJ (I9 h p.1 p.2),YL h];simp only[tot];grind
theorem put_mem {l:List a_}{e:fT}{c:Rat}{p:a_}(h:p ∈ qR l e c):p=(e,(lK l e).getD 0+c)\/p ∈ l:=Ue h
def Fits (l:List a_):Prop:=∀ p ∈ l,bR p.1=true
def Bd (S:Nat)(l:List a_):Prop:=∀ p ∈ l,qz p.2<=S
theorem Bd.mono {S T:Nat}{l:List a_}(h:Bd S l)(hST:S<=T):Bd T l:=fun p hp=>Qc2 (h p hp) hST
theorem Ui {l:List a_}(h:Fits l){e:fT}(he:bR e=true)(c:Rat):Fits (qR l e c):=by
 intro p hp;rcases put_mem hp with rfl|hp
 ·exact he
 ·exact h p hp
theorem ab8 {S:Nat}{l:List a_}(h:Bd S l)(e:fT){c:Rat}{T:Nat}(hc:qz c<=T):Bd (S+T+1) (qR l e c):=by
 intro p hp;rcases put_mem hp with rfl|hp
 ·show qz ((lK l e).getD 0+c)<=_;cases hg:lK l e with
  | none =>
   have:(0:Rat)+c=c:=Rat.zero_add c;simp only[Option.getD_none,this];omega
  | some y =>
   have h1:=h _ (BV hg);have h2:=o8 y c;simp only[Q51]at*;omega
 ·have:=h p hp;omega
theorem LU (l:List a_)(e:fT)(c:Rat):(qR l e c).length<=l.length+1:=by
 have:((qR l e c).map (·.1)).length<=(l.map (·.1)).length+1:=by
  unfold qR;rcases EP l e ((lK l e).getD 0+c) with h|⟨_,h⟩
  ·rw[h];omega
  ·rw[h];simp
 simpa using this
theorem wK:∀ {ms l:List a_},Fits l->Fits ms->Fits (gM l ms)
 | [],_,h,_=>h
 | p::ms,l,h,hm=>wK (ms:=ms) (Ui h (hm p (Qj0 ..)) p.2) (fun q hq=>hm q (Qf1 _ hq))
theorem LV {T:Nat}:∀ {ms l:List a_} {S:Nat},Bd S l->Bd T ms->Bd (S+ms.length*(T+1)) (gM l ms)
 | [],_,_,h,_=>h.mono aA
 | p::ms,l,S,h,hm=>by
  have:=LV (ms:=ms) (ab8 h p.1 (hm p (Qj0 ..))) (fun q hq=>hm q (Qf1 _ hq));rw[yA];refine this.mono ?_;rw[Qg0,Qp1];omega
theorem u6:∀ {ms l:List a_},(gM l ms).length<=l.length+ms.length
 | [],_=>by simp[gM]
 | p::ms,l=>by
  have h1:=u6 (ms:=ms) (l:=qR l p.1 p.2);have h2:=LU l p.1 p.2;rw[yA,Qg0];omega
structure PV (S:Nat)(l:List a_):Prop where
 LW:Srt l
 nz:Nz l
 fits:Fits l
 bd:Bd S l
theorem PV.mono {S T:Nat}{l:List a_}(h:PV S l)(hST:S<=T):PV T l:=⟨h.LW,h.nz,h.fits,h.bd.mono hST⟩
theorem PV.nil (S:Nat):PV S []:=⟨List.Pairwise.nil,fun _ hp=>(by cases hp),fun _ hp=>(by cases hp),fun _ hp=>(by cases hp)⟩
theorem PV.ext {S T:Nat}{l m:List a_}(h:PV S l)(k:PV T m)(e:∀ e,tot l e=tot m e):l=m:=NZ h.LW k.LW h.nz k.nz e
theorem Ja:∀ (n:Nat) (l:List Nat),l.Nodup->(∀ x ∈ l,x<n)->l.length<=n
 | 0,l,_,h=>by
  cases l with
  | nil=>simp
  | cons x r=>exact absurd (h x (Qj0 ..)) ae
 | n+1,l,hn,h=>by
  have h1:=Ja n (l.erase n) (hn.erase n) (fun x hx=>by
   have h2:=h x (List.mem_of_mem_erase hx);have h3:x≠n:=fun e=>by subst e;exact(List.Nodup.mem_erase_iff hn).1 hx |>.1 rfl
   omega)
  have h2:=List.length_erase_of_mem (a:=n) (l:=l)
  by_cases hm:n ∈ l
  ·have:=h2 hm;omega
  ·rw[List.erase_of_not_mem hm]at h1;omega
theorem fD {e:fT}(h:bR e=true):0<=e.1/\e.1<=5/\0<=e.2.1/\e.2.1<=5/\0<=e.2.2/\e.2.2<=5/\e.1+e.2.1+e.2.2<=5:=by
 unfold bR kS at h;simp at h;omega
theorem Uj {e:fT}:bR e=true↔0<=e.1/\0<=e.2.1/\0<=e.2.2/\e.1+e.2.1+e.2.2<=5:=by
 unfold bR kS;simp;omega
theorem Uk {e:fT}(h:bR e=true):Gt e<=5:=by
 have h':=fD h;unfold bR at h;simp only[Qb1]at h;rw[uS h.1.1.1 h.1.1.2 h.1.2];omega
theorem zw {l:List a_}(hk:Keys l)(hf:Fits l):l.length<=216:=by
 have h1:(l.map fun p=>(36*p.1.1+6*p.1.2.1+p.1.2.2).toNat).Nodup:=by
  unfold Keys at hk;rw[Xd0,Xn2]at hk ⊢;refine(List.Pairwise.and_mem.1 hk).imp ?_;rintro a b ⟨ha,hb,hne⟩ he;apply hne;have h2:=fD (hf a ha);have h3:=fD (hf b hb);have:a.1.1=b.1.1/\a.1.2.1=b.1.2.1/\a.1.2.2=b.1.2.2:=ae;obtain⟨⟨x,y,z⟩,q⟩:=a;obtain⟨⟨x',y',z'⟩,q'⟩:=b;simp only at this;obtain⟨rfl,rfl,rfl⟩:=this;rfl
 have h2:=Ja 216 _ h1 (fun x hx=>by
  obtain⟨p,hp,rfl⟩:=Qi1.1 hx;have:=fD (hf p hp);omega)
 simpa using h2
theorem PV.length {S:Nat}{l:List a_}(h:PV S l):l.length<=216:=zw (jg h.LW) h.fits
def gz (a b:List a_):List a_:=canon (gM [] (a++b))
theorem keys_nil:Keys []:=List.nodup_nil
theorem jK (a b:List a_)(e:fT):tot (gz a b) e=tot a e+tot b e:=by
 unfold gz;rw[yz,wJ keys_nil,jq];simp only[tot];grind
set_option maxHeartbeats 8000000
def YM:aF:=f207.body.r.r.l.r.bl.lp
def N_:aF:=f207.body.r.r.r.r.l.r.bl.lp
def moZ:D:=.a [vI 0,vI 0,vI 0,vB false,.s 1 [],.s 1 []]
def tJ (a b:List D):FV:=.d (.s 1 [.s 6 a,.s 6 b])
def rJ (a b:List D)(k acc:Nat)(t:FV):St:=(st0 [tJ a b,.u,dI acc,.u,.u,.u,tJ a b,dI 2,dI k,t,.u,.u,.u,.u,.u] [])
def kW (a b:List D)(k:Nat)(acc:FV)(L:List ah)(t:FV)(dy:Bool:=false):St:={vars:=[.u,.u,.u,.u,acc,.u,.u,.u,.u,.u,.u,tJ a b,dI 2,dI k,t],base:=[],loc:=L,aS:=dy}
theorem w1':ai .i64 1=1:=wrap_i64 ae
theorem w2':ai .i64 2=2:=wrap_i64 ae
theorem aff (a b:List D)(h:a.length<=1000000):Ex E0 YM (rJ a b 0 0 .u) (.norm,rJ a b 1 a.length .u):=by
 have w:ai .i64 (a.length:Int)=a.length:=wrap_i64 ae;have h0:¬ ((a.length:Int)<0):=ae;apply e6;unfold rJ tJ;simp[YM,f207,w,h0,w1']
theorem afg (a b:List D)(h:a.length<=1000000)(h':b.length<=1000000):Ex E0 YM (rJ a b 1 a.length .u) (.norm,rJ a b 2 (a.length+b.length) .u):=by
 have w:ai .i64 ((a.length:Int)+(b.length:Int))=(a.length:Int)+(b.length:Int):=wrap_i64 ae;have h0:¬ ((a.length:Int)+(b.length:Int)<0):=ae;apply e6;unfold rJ tJ;simp only[Int.natCast_add];simp[YM,f207,w,h0,w2']
theorem afh (a b:List D)(n:Nat):Ex E0 YM (rJ a b 2 n .u) (.exit 0,rJ a b 2 n (dB false)):=by
 apply e6;unfold rJ tJ;simp[YM,f207]
theorem YN (a b:List D)(h:a.length<=1000000)(h':b.length<=1000000):Ex E0 (.loop YM) (rJ a b 0 0 .u) (.exit 0,rJ a b 2 (a.length+b.length) (dB false)) :=
 (aff a b h).next ((afg a b h h').next ((afh a b _).leave aA))
theorem aaK (a b:List D)(acc:FV)(L:List ah)(dy:Bool):Ex E0 N_ (kW a b 2 acc L .u dy) (.exit 2,kW a b 2 acc L (dB false) dy):=by
 apply e6;unfold kW tJ;simp[N_,f207]
theorem Oa (a b:List D)(k:Nat)(hk:k<2)(ha:a=[])(hb:b=[]):Ex E0 N_ (kW a b k (.d (.n 6)) [] .u) (.norm,kW a b (k+1) (.d (.n 6)) [] .u):=by
 subst ha hb;apply e6;unfold kW tJ
 match k,hk with
 | 0,_=>simp[N_,f207,w1',most]
 | 1,_=>simp[N_,f207,w2',most]
theorem afi (a b R:List D)(h:a.length<=1000000):Ex E0 N_ (kW a b 0 (.ls (.loc 0) 0 6 0 0) [.row 0 6 R] .u) (.norm,kW a b 1 (.ls (.loc 0) 1 6 0 a.length) [.row 1 6 a] .u):=by
 have h1:a.length*80<=most:=by unfold most;omega
 have h2:a.length<=most:=by unfold most;omega
 apply e6;unfold kW tJ;simp[N_,f207,w1',h1,h2]
theorem afj (a b:List D)(h:a.length<=1000000)(h':b.length<=1000000):Ex E0 N_ (kW a b 1 (.ls (.loc 0) 1 6 0 a.length) [.row 1 6 a] .u) (.norm,kW a b 2 (.ls (.loc 0) 2 6 0 (a.length+b.length)) [.row 2 6 (a++b)] .u):=by
 have h1:(a.length+b.length)*80<=most:=by unfold most;omega
 have h2:a.length+b.length<=most:=by unfold most;omega
 apply e6;unfold kW tJ;simp[N_,f207,w2',h1,h2]
theorem Ul (n m:Nat)(h0:0<n)(h:n<=2000000):CL E0 (m+100) 258 [.d (.n 6),dI n] []=some (.ls (.old 0) 0 6 0 0,some [.row 0 6 (List.replicate n moZ)]):=by
 have w0:ai .i64 0=0:=wrap_i64 ae;have wn:ai .i64 (n:Int)=n:=wrap_i64 ae;have g0:¬ ((n:Int)<0):=ae;have g1:(0:Int)<n:=ae;have h1:(n:Int)*80<=most:=by unfold most;omega
 have h2:(n:Int)<=most:=by unfold most;omega
 rw[av rfl (k258:E0.fn _=_) rfl];simp[f258,FV.az,ah.az,j4,F8,w0,wn,g0,g1,h1,h2,moZ,h0]
theorem P5 (a b:List D)(ha:a.length<=1000000)(hb:b.length<=1000000):∃ o,Ca E0 207 [tJ a b] (.d (.s 6 (a++b)),o)/\(o=none\/∃ x,o=some [x]):=by
 have w0:ai .i64 0=0:=wrap_i64 ae;have hA:Ex E0 f207.body.l (st0 (tJ a b::O3) []) (.norm,(st0 (tJ a b::O3) [])):=by
  apply e6;unfold tJ;simp[f207]
 have hB:Ex E0 f207.body.r.l (st0 (tJ a b::O3) []) (.norm,(st0 (tJ a b::.u::dI 0::D5) [])):=by
  apply e6;unfold tJ;simp[f207]
 have hC:Ex E0 f207.body.r.r.l.l (st0 (tJ a b::.u::dI 0::D5) []) (.norm,rJ a b 0 0 .u):=by
  apply e6;unfold tJ rJ tJ;simp[f207]
 have hL:=YN a b ha hb;have hN:∃ acc L,Ex E0 (.loop N_) (kW a b 0 acc L .u) (.exit 2,kW a b 2 acc L .u)\/True:=⟨.u,[],.inr trivial⟩
 clear hN
 by_cases hn:a.length+b.length=0
 ·obtain rfl:a=[]:=Qo0 ae;obtain rfl:b=[]:=Qo0 ae;have hD:Ex E0 f207.body.r.r.r.l (rJ [] [] 2 (0+0) (dB false)) (.norm,(st0 (tJ [] []::.u::.u::.u::.d (.n 6)::qP) [])):=by
   have t:∀ m,CL E0 (m+100) 258 [.d (.n 6),dI 0] []=some (.d (.n 6),none):=by
    intro m;rw[av rfl (k258:E0.fn _=_) rfl];simp[f258,w0]
   refine Ex.of (n:=200) ?_;unfold rJ tJ;simp[f207,t,FV.aP,FV.az,ah.az]
  have hE:Ex E0 f207.body.r.r.r.r.l.l (st0 (tJ [] []::.u::.u::.u::.d (.n 6)::qP) []) (.norm,kW [] [] 0 (.d (.n 6)) [] .u):=by
   apply e6;unfold tJ kW tJ;simp[f207]
  have hF:Ex E0 f207.body.r.r.r.r.r (kW [] [] 2 (.d (.n 6)) [] (dB false)) (.ret,(st0 (.u::.d (.n 6)::F5) [])):=by
   apply e6;unfold kW tJ;simp[f207]
  have hM:Ex E0 (.loop N_) (kW [] [] 0 (.d (.n 6)) [] .u) (.exit 2,kW [] [] 2 (.d (.n 6)) [] (dB false)) :=
   (Oa [] [] 0 ae rfl rfl).next ((Oa [] [] 1 ae rfl rfl).next ((aaK [] [] _ _ _).leave aA))
  refine⟨none,Ca.body (o:=.ret) rfl (k207:E0.fn _=_) rfl ?_ (by intro id h;cases h) (st1:=(st0 (.u::.d (.n 6)::F5) [])) ?_,.inl rfl⟩
  ·show Ex E0 (.seq f207.body.l (.seq f207.body.r.l (.seq (.seq f207.body.r.r.l.l (.block 0 (.loop YM))) (.seq f207.body.r.r.r.l (.seq (.seq f207.body.r.r.r.r.l.l (.block 2 (.loop N_))) f207.body.r.r.r.r.r))))) _ _;exact hA.seq (hB.seq ((hC.seq hL.block).seq (hD.seq ((hE.seq hM.block).seq hF))))
  ·simp[f207]
 ·have hD:Ex E0 f207.body.r.r.r.l (rJ a b 2 (a.length+b.length) (dB false)) (.norm,(st0 (tJ a b::.u::.u::.u::.ls (.loc 0) 0 6 0 0::qP) [.row 0 6 (List.replicate (a.length+b.length) moZ)])):=by
   have t:=fun m=>Ul (a.length+b.length) m ae ae
   refine Ex.of (n:=200) ?_;unfold rJ tJ;generalize a.length+b.length=n at*;generalize List.replicate n moZ=R at*;simp[f207,t,FV.aP,FV.az,ah.az]
  have hE:Ex E0 f207.body.r.r.r.r.l.l (st0 (tJ a b::.u::.u::.u::.ls (.loc 0) 0 6 0 0::qP) [.row 0 6 (List.replicate (a.length+b.length) moZ)]) (.norm,kW a b 0 (.ls (.loc 0) 0 6 0 0) [.row 0 6 (List.replicate (a.length+b.length) moZ)] .u):=by
   apply e6;unfold tJ kW tJ;generalize List.replicate (a.length+b.length) moZ=R at*;simp[f207]
  have hF:Ex E0 f207.body.r.r.r.r.r (kW a b 2 (.ls (.loc 0) 2 6 0 (a.length+b.length)) [.row 2 6 (a++b)] (dB false)) (.ret,(st0 (.u::.ls (.loc 0) 2 6 0 (a.length+b.length)::F5) ([.row 2 6 (a++b)]))):=by
   apply e6;unfold kW tJ;simp[f207]
  have hM:Ex E0 (.loop N_) (kW a b 0 (.ls (.loc 0) 0 6 0 0) [.row 0 6 (List.replicate (a.length+b.length) moZ)] .u) (.exit 2,kW a b 2 (.ls (.loc 0) 2 6 0 (a.length+b.length)) [.row 2 6 (a++b)] (dB false)) :=
   (afi a b _ ha).next ((afj a b ha hb).next ((aaK a b _ _ _).leave aA))
  refine⟨none,Ca.body (o:=.ret) rfl (k207:E0.fn _=_) rfl ?_ (by intro id h;cases h) (st1:=(st0 (.u::.ls (.loc 0) 2 6 0 (a.length+b.length)::F5) ([.row 2 6 (a++b)]))) ?_,.inl rfl⟩
  ·show Ex E0 (.seq f207.body.l (.seq f207.body.r.l (.seq (.seq f207.body.r.r.l.l (.block 0 (.loop YM))) (.seq f207.body.r.r.r.l (.seq (.seq f207.body.r.r.r.r.l.l (.block 2 (.loop N_))) f207.body.r.r.r.r.r))))) _ _;exact hA.seq (hB.seq ((hC.seq hL.block).seq (hD.seq ((hE.seq hM.block).seq hF))))
  ·have e1:ah.view 2 6 0 (a.length+b.length) (.row 2 6 (a++b))=some (a++b):=by
    have:List.take (a.length+b.length) (a++b)=a++b:=by rw[<-Qb0,Qn0]
    simp[ah.view,this]
   clear hA hB hC hL hD hE hF hM hn;simp[f207,e1,FV.az,ah.az]
def aZ (l:List a_):D:=.s 6 (l.map fun p=>qC p.1 p.2)
def uE (p:a_):Mo:=⟨p.1,qs p.2,qn p.2,qd p.2⟩
theorem Gw (l:List a_):aZ l=PD (l.map uE):=by
 unfold aZ PD;rw[Xh0];rfl
theorem Um {l:List a_}:oF l=aZ (canon l):=by
 unfold oF aZ canon;have h1:l.flatMap eG=(l.filter fun p=>decide (p.2≠0)).map fun p=>qC p.1 p.2:=by
  induction l with
  | nil=>rfl
  | cons p r ih =>
   by_cases hp:p.2=0
   ·rw[Xb1 (by simpa using hp)];simp[Xc0,eG,hp,ih]
   ·rw[Xb2 (by simpa using hp)];simp[Xc0,eG,hp,ih]
 rw[h1,<-List.map_mergeSort (r:=fun a b => !kU b.1 a.1)];intro a _ b _;rfl
theorem YO {S:Nat}{l:List a_}(h:Bd S l){e:fT}{y:Rat}(hy:lK l e=some y):qz y<=S:=h _ (BV hy)
def paL:aF:=f155.body.r.r.l.r.bl.lp
def P6 (es:List D)(k:Nat)(L:List ah)(t:FV):St:=(st0 [.u,.u,.u,.m (.loc 0),.u,.d (.s 6 es),dI es.length,dI k,t] L)
theorem Un (es:List D)(k:Nat)(L:List ah)(l:List a_)(p:a_)(hn:es.length<=1000000)(hk:es[k]?=some (qC p.1 p.2))(hL:L[0]?=some (.map (l.map iW)))(hp:qz p.2<=50000)(hl:Bd 50000 l)(hf:bR p.1=true) :
  ∃ L',Ex E1 paL (P6 es k L .u) (.norm,P6 es (k+1) L' .u)/\L'[0]?=some (.map ((qR l p.1 p.2).map iW)):=by
 obtain⟨e,x⟩:=p;have hkl:k<es.length:=(bq hk)
 have hB:(List.map (ah.az 0) (L++[ah.box [dI e.1,dI e.2.1,dI e.2.2,dB (qs x),.d (LD (qn x)),.d (LD (qd x))]]))[0]?=some (.map (l.map iW)):=by
  cases L with
  | nil=>cases hL
  | cons o r=>simp only[Qv1,Qd2]at hL;subst hL;rfl
 obtain⟨N,B',t,hlen,hB'⟩:=I7 _ 0 l hB e x hp (fun y hy=>YO hl hy) (Uk hf);refine⟨B',Ex.of (n:=N+200) ?_,hB'⟩;have aR:ai .i64 ((k:Int)+1)=(k:Int)+1:=wrap_i64 ae;have hk1:((k+1:Nat):Int)=(k:Int)+1:=ae;have hk0:(0:Int)<=(k:Int):=ae;have hkc:(k:Int)<(es.length:Int):=ae;clear hB hB' hlen hp hl hf;obtain⟨a,b,c⟩:=e;unfold P6;rw[hk1];simp only[qC,Aa,lM,qD,raw]at*;generalize qs x=s at*;simp only[LD]at*;generalize LL (qn x)=ns,LL (qd x)=ds at*;have i1:=idx hk;simp only[Qp2,Qe2,Qc1,ah.az,FV.aP,FV.az]at t;simp[paL,f155,aR,hk0,hkc,hk,i1,t,FV.az,FV.aP,ah.az]
theorem Uo {ms:List a_}{k:Nat}{p:a_}(h:ms[k]?=some p):gM [] (ms.take (k+1))=qR (gM [] (ms.take k)) p.1 p.2:=by
 rw[Q82,h];show gM [] (ms.take k++[p])=_;rw[I_];rfl
theorem YP (ms:List a_)(L:List ah)(S:Nat)(hn:ms.length<=1000000)(hL:L[0]?=some (.map []))(hf:Fits ms)(hb:Bd S ms)(hS:S<=50000)(hm:ms.length*(S+1)<=50000) :
  ∃ L',Ex E1 (.loop paL) (P6 (ms.map fun p=>qC p.1 p.2) 0 L .u) (.exit 0,P6 (ms.map fun p=>qC p.1 p.2) ms.length L' (dB false))/\L'[0]?=some (.map ((gM [] ms).map iW)):=by
 have hlen:(ms.map fun p=>qC p.1 p.2).length=ms.length:=aA;obtain⟨r,h1,L',h2,h3⟩:=Ex.inv (E:=E1) (b:=paL) (α:=Nat × List ah) (S:=fun a=>P6 (ms.map fun p=>qC p.1 p.2) a.1 a.2 .u) (fun a=>ms.length-a.1)
  (fun a=>a.1<=ms.length/\a.2[0]?=some (.map ((gM [] (ms.take a.1)).map iW))) (fun r=>∃ L',r=(.exit 0,P6 (ms.map fun p=>qC p.1 p.2) ms.length L' (dB false))/\L'[0]?=some (.map ((gM [] ms).map iW))) (by
   rintro⟨k,L⟩ ⟨q1,q2⟩;simp only at q1 q2
   by_cases hk:k<ms.length
   ·have hp:ms[k]?=some ms[k]:=Qa1 hk;have hpm:ms[k] ∈ ms:=Qi0 hk;have hp2:(ms.map fun p=>qC p.1 p.2)[k]?=some (qC ms[k].1 ms[k].2):=by rw[Qb2,hp];rfl
    have hbd:Bd 50000 (gM [] (ms.take k)):=by
     refine(LV (S:=0) (T:=S) (fun p hp=>by cases hp) (fun p hp=>hb p (Qn1 hp))).mono ?_;rw[Qr0,Qx1];exact Qc2 (Qe0 _ (Nat.min_le_right _ _)) hm
    obtain⟨L',g1,g2⟩:=Un _ k L _ ms[k] (by rw[hlen];exact hn) hp2 q2 (Qc2 (hb _ hpm) hS) hbd (hf _ hpm);refine .inl ⟨(k+1,L'),g1,by show ms.length-(k+1)<ms.length-k;omega,by show k+1<=_;omega,?_⟩;show L'[0]?=some (.map ((gM [] (ms.take (k+1))).map iW));rw[Uo hp];exact g2
   ·obtain rfl:k=ms.length:=ae;rw[Qn0]at q2;refine .inr ⟨_,Ex.of (n:=60) ?_,?_,L,rfl,q2⟩
    ·simp only[P6,hlen];generalize (ms.map fun p=>qC p.1 p.2)=es,ms.length=n at*;simp[paL,f155]
    ·simp) (0,L) ⟨Qy1 _,hL⟩
 subst h2;exact⟨L',h1,h3⟩
theorem Ay {S:Nat}:∀ {l:List a_} {q:Option Mo},PV S l->(∀ m,q=some m->∀ p ∈ l,kU m.e p.1=true)->zi q (l.map uE)=true
 | [],_,_,_=>by simp[zi]
 | p::l,q,h,hq=>by
  have hs:=Qq1.1 h.LW;have hfit:(uE p).fits=true:=by
   unfold Mo.fits uE;have h1:=h.fits p (Qj0 ..);have h2:qn p.2≠[]:=by
    have h3:=h.nz p (Qj0 ..);intro h4;have h5:p.2.num.natAbs=0:=by
     have:=aW (p.2.num.natAbs);unfold qn at h4;rw[h4]at this;simpa[val] using this.symm
    exact h3 (Rat.num_eq_zero.1 (Xs2.1 h5))
   simp[h1,h2,sS]
  have hr:zi (some (uE p)) (l.map uE)=true:=Ay (S:=S) ⟨hs.2,fun x hx=>h.nz x (Qf1 _ hx),fun x hx=>h.fits x (Qf1 _ hx),fun x hx=>h.bd x (Qf1 _ hx)⟩ (fun m hm x hx=>by cases hm;exact hs.1 x hx);cases q with
  | none=>simp only[Qe2,zi,hfit,hr,Bool.and_self]
  | some m =>
   have h6:je m.e (uE p).e<0:=of_decide_eq_true (hq m rfl p (Qj0 ..));simp only[Qe2,zi,hfit,hr,decide_eq_true h6,Bool.and_self]
theorem Uq {S:Nat}{l:List a_}(h:PV S l)(hS:S<=1000):Po (l.map uE):=by
 refine⟨fun m hm => ?_,by have:=h.length;simp;omega⟩;obtain⟨p,hp,rfl⟩:=Qi1.1 hm;have hb:=h.bd p hp;have h1:(qn p.2).length<=qz p.2:=Q01 _ _;have h2:(qd p.2).length<=qz p.2:=by
  unfold qd;split
  ·simp
  ·exact Qz2 _ _
 exact⟨Gi _,Gj _,Qc2 h1 (Qc2 hb hS),Qc2 h2 (Qc2 hb hS)⟩
theorem ET {S:Nat}{l:List a_}(h:PV S l)(hS:S<=1000):Ca E1 208 [.d (aZ l)] (.d (aZ l),none):=by
 have h1:=EI _ (Uq h hS);rw[Ay h (fun m hm=>by cases hm),<-Gw]at h1;obtain⟨N,t⟩:=(Ca.ib h1).get;refine Ca.bP (n:=N+60) ?_;rw[av rfl (aM 208 f208:E1.fn _=_) rfl];unfold aZ at*;generalize (l.map fun p=>qC p.1 p.2)=es at*;simp[f208,t]
theorem LX {S:Nat}{ms:List a_}(hf:Fits ms)(hb:Bd S ms)(hm:ms.length*(S+1)<=50000):uX (gM [] ms)=true:=by
 have hk:Keys (gM [] ms):=wH keys_nil;have hF:Fits (gM [] ms):=wK (fun p hp=>by cases hp) hf;have hB:Bd (0+ms.length*(S+1)) (gM [] ms):=LV (fun p hp=>by cases hp) hb;have hl:=zw hk hF;unfold uX;simp only[Qb1,decide_eq_true_eq,Qh2];exact⟨⟨hk,fun p hp=>by have:=hB p hp;omega⟩,ae⟩
theorem P7 {S:Nat}{L:List ah}{ms:List a_}(hL:L[0]?=some (.map ((gM [] ms).map iW)))(hf:Fits ms)(hb:Bd S ms)(hm:ms.length*(S+1)<=50000)(m:Nat) :
  CL E1 m 206 [.m (.old 0)] (List.map (ah.az 0) L)=some (.d (aZ (canon (gM [] ms))),none):=by
 have hB:(List.map (ah.az 0) L)[0]?=some (.map ((gM [] ms).map iW)):=by rw[Qb2,hL];rfl
 rw[EO m 0 _ _ hB (LX hf hb hm),Um]
theorem YQ {S:Nat}{a b:List a_}(ha:PV S a)(hb:PV S b)(hS:S<=1000)(hm:(a++b).length*(S+1)<=50000):Ca E1 155 [.d (aZ a),.d (aZ b)] (.d (aZ (gz a b)),none):=by
 have hf:Fits (a++b):=fun p hp=>by
  rcases Qv0.1 hp with hp|hp
  ·exact ha.fits p hp
  ·exact hb.fits p hp
 have hB:Bd S (a++b):=fun p hp=>by
  rcases Qv0.1 hp with hp|hp
  ·exact ha.bd p hp
  ·exact hb.bd p hp
 have la:=ha.length;have lb:=hb.length;have hlen:(a++b).length<=1000000:=by rw[Qb0];omega
 obtain⟨N1,t1⟩:=(ET ha hS).any;obtain⟨N2,t2⟩:=(ET hb hS).any;obtain⟨o,hc,ho⟩:=P5 (a.map fun p=>qC p.1 p.2) (b.map fun p=>qC p.1 p.2) (by simp;omega) (by simp;omega);obtain⟨N3,t3⟩:=(Ca.ib hc).any;obtain⟨M,hM⟩:∃ M,M=N1+N2+N3:=⟨_,rfl⟩
 replace t1:=t1 M ae;replace t2:=t2 M ae;replace t3:=t3 M ae;have e1:(a.map fun p=>qC p.1 p.2)++(b.map fun p=>qC p.1 p.2)=(a++b).map fun p=>qC p.1 p.2:=aA
 rw[e1]at t3;have hAB:Ex E1 f155.body.l (st0 (.d (aZ a)::.d (aZ b)::sO) []) (.norm,(st0 (.d (aZ a)::.d (aZ b)::sO) [])):=by
  apply e6;generalize aZ a=x1;generalize aZ b=x2;simp[f155]
 have hMk := nx hAB f155.body.r.l (st0 (.d (aZ a)::.d (aZ b)::.u::.m (.loc 0)::lI) [.map []]) (by
  apply e6;generalize aZ a=x1;generalize aZ b=x2;simp[f155])
 have hC:∃ L,L[0]?=some (.map [])/\Ex E1 f155.body.r.r.l.l (st0 (.d (aZ a)::.d (aZ b)::.u::.m (.loc 0)::lI) [.map []]) (.norm,P6 ((a++b).map fun p=>qC p.1 p.2) 0 L .u):=by
  rcases ho with rfl|⟨x,rfl⟩
  ·refine⟨[.map []],rfl,Ex.of (n:=M+100) ?_⟩;unfold aZ P6 tJ at*;generalize ((a++b).map fun p=>qC p.1 p.2)=es,(a.map fun p=>qC p.1 p.2)=es1,(b.map fun p=>qC p.1 p.2)=es2 at*;simp[f155,t1,t2,t3]
  ·refine⟨[.map [],ah.shift 1 x],rfl,Ex.of (n:=M+100) ?_⟩;unfold aZ P6 tJ at*;generalize ((a++b).map fun p=>qC p.1 p.2)=es,(a.map fun p=>qC p.1 p.2)=es1,(b.map fun p=>qC p.1 p.2)=es2 at*;simp[f155,t1,t2,t3]
 obtain⟨L,hL,hC⟩:=hC;obtain⟨L',hl,hL'⟩:=YP (a++b) L S hlen hL hf hB ae hm;have t4:=fun m=>P7 hL' hf hB hm m
 have Ob:aZ (canon (gM [] (a++b)))=aZ (gz a b):=rfl;rw[Ob]at t4;have hD:Ex E1 f155.body.r.r.r (P6 ((a++b).map fun p=>qC p.1 p.2) (a++b).length L' (dB false)) (.ret,(st0 (.u::.u::.d (aZ (gz a b))::qO) (L'))):=by
  refine Ex.of (n:=100) ?_;unfold aZ P6 at*;generalize ((a++b).map fun p=>qC p.1 p.2)=es,((gz a b).map fun p=>qC p.1 p.2)=es1 at*;simp[f155,t4,FV.az,FV.aP]
 refine Ca.body (o:=.ret) (st1:=(st0 (.u::.u::.d (aZ (gz a b))::qO) (L'))) rfl (aM 155 f155:E1.fn _=_) rfl ?_ (by intro id h;cases h) ?_
 ·show Ex E1 (.seq f155.body.l (.seq f155.body.r.l (.seq (.seq f155.body.r.r.l.l (.block 0 (.loop paL))) f155.body.r.r.r))) _ _;exact hAB.seq (hMk.seq ((hC.seq hl.block).seq hD))
 ·unfold aZ;generalize ((gz a b).map fun p=>qC p.1 p.2)=es1 at*;simp[f155]
def nJ (p:a_):ah:=.box [dI p.1.1,dI p.1.2.1,dI p.1.2.2,dB (qs p.2),.d (LD (qn p.2)),.d (LD (qd p.2))]
def iD (a b:fT):fT:=(a.1+b.1,a.2.1+b.2.1,a.2.2+b.2.2)
def rM (p:a_)(b:List a_):List a_:=(b.map fun q=>(iD p.1 q.1,p.2*q.2)).filter fun x=>bR x.1
def gN (a b:List a_):List a_:=a.flatMap fun p=>rM p b
theorem Gx (p:a_)(b:List a_):(rM p b).length<=b.length:=by
 unfold rM;exact Qc2 (Xh1 _ _) aA
theorem LY (p:a_)(b:List a_):Fits (rM p b):=fun x hx=>(Qz1.1 hx).2
theorem Gy (a b:List a_):(gN a b).length<=a.length*b.length:=by
 induction a with
 | nil=>simp[gN]
 | cons p r ih =>
  have h1:gN (p::r) b=rM p b++gN r b:=by simp[gN]
  have h2:=Gx p b;rw[h1,Qb0,Qg0,Qp1];omega
theorem LZ (a b:List a_):Fits (gN a b):=fun x hx=>by
 obtain⟨p,_,hx⟩:=Xz1.1 hx;exact LY p b x hx
def iJ (a b:List a_):List a_:=canon (gM [] (gN a b))
theorem tL:∀ {l:List a_},Keys l->∀ {p:a_},p ∈ l->tot l p.1=p.2
 | [],_,_,hp=>by cases hp
 | (a,y)::r,h,p,hp=>by
  unfold Keys at h;simp only[Qe2,List.nodup_cons]at h;rcases Qi2.1 hp with h0|hp2
  ·subst h0;have hr:∀ x ∈ r,x.1≠a:=fun x hx he=>h.1 (he ▸ Qi1.2 ⟨x,hx,rfl⟩)
   simp only[tot,if_true,kL hr];grind
  ·have h1:¬ a=p.1:=fun he=>h.1 (he ▸ Qi1.2 ⟨p,hp2,rfl⟩)
   simp only[tot,if_neg h1,tL h.2 hp2];grind
theorem BX {S:Nat}(hS:1<=S){l:List a_}(h:Keys l)(hb:Bd S l)(e:fT):qz (tot l e)<=S:=by
 cases hg:lK l e with
 | none =>
  rw[kL (PZ hg)];exact Qc2 jJ hS
 | some y =>
  have h1:=BV hg;have h2:=tL h h1;simp only at h2;rw[h2];exact hb _ h1
theorem Jb {S:Nat}{l:List a_}(hk:Keys l)(hf:Fits l)(hb:∀ e,qz (tot l e)<=S):PV S (canon l):=by
 refine⟨ES hk,Uh l,fun p hp=>hf p (ER.1 hp).1,fun p hp => ?_⟩;have:=tL (jg (ES hk)) hp;rw[yz]at this;rw[<-this];exact hb _
theorem wL (l:List a_):(canon l).length<=l.length:=by
 unfold canon;rw[List.length_mergeSort];exact Xh1 _ _
theorem gP {S T:Nat}(hS:1<=S)(hT:1<=T){a b:List a_}(ha:PV S a)(hb:PV T b):PV (S+T+1) (gz a b):=by
 refine Jb (wH keys_nil) (wK (fun p hp=>by cases hp) ?_) fun e => ?_
 ·intro p hp;rcases Qv0.1 hp with hp|hp
  ·exact ha.fits p hp
  ·exact hb.fits p hp
 ·have h1:tot (gM [] (a++b)) e=tot a e+tot b e:=by
   rw[wJ keys_nil,jq];simp only[tot];grind
  rw[h1];have h2:=o8 (tot a e) (tot b e);have h3:=BX hS (jg ha.LW) ha.bd e;have h4:=BX hT (jg hb.LW) hb.bd e;omega
theorem zx (a b:List a_):(gz a b).length<=a.length+b.length:=by
 have h1:=wL (gM [] (a++b));have h2:=u6 (ms:=a++b) (l:=[]);rw[Qb0]at h2;show(canon (gM [] (a++b))).length<=_;simp only[Qr1]at h2;omega
theorem zy (a b:List a_):(iJ a b).length<=a.length*b.length:=by
 have h1:=wL (gM [] (gN a b));have h2:=u6 (ms:=gN a b) (l:=[]);have h3:=Gy a b;show(canon (gM [] (gN a b))).length<=_;simp only[Qr1]at h2;omega
theorem L6 {p:a_}{b:List a_}(hb:Keys b):Keys (rM p b):=by
 have h1:Keys (b.map fun q=>(iD p.1 q.1,p.2*q.2)):=by
  unfold Keys at*;rw[Xd0,Xn2]at hb;rw[Xh0,Xd0,Xn2];refine hb.imp ?_;intro x y hne he;apply hne;simp only[Function.comp,iD,Qm2]at he;obtain⟨⟨a,b,c⟩,_⟩:=x;obtain⟨⟨a',b',c'⟩,_⟩:=y;simp only at he;simp only[Qm2];omega
 unfold Keys rM at*;exact Xt1 (List.filter_sublist.map _) h1
theorem wM {S T:Nat}(hS:1<=S){b:List a_}(hb:PV T b)(e:fT):∀ {a:List a_},Bd S a->qz (tot (gN a b) e)<=a.length*(S+T+1)+1
 | [],_=>by
  have:=jJ;simp only[gN,List.flatMap_nil,tot,Qr1];omega
 | p::a,ha=>by
  have h1:gN (p::a) b=rM p b++gN a b:=by simp[gN]
  rw[h1,jq];have h2:=o8 (tot (rM p b) e) (tot (gN a b) e);have h3:=wM hS hb e (a:=a) (fun x hx=>ha x (Qf1 _ hx));have h4:Bd (S+T) (rM p b):=by
   intro x hx;obtain⟨hx,_⟩:=Qz1.1 hx;obtain⟨q,hq,rfl⟩:=Qi1.1 hx;have g1:=Bq p.2 q.2;have g2:=hb.bd q hq;have g3:=ha p (Qj0 ..);show qz (p.2*q.2)<=_;omega
  have h5:=BX ae (L6 (jg hb.LW)) h4 e;rw[Qg0,Qp1];omega
theorem wN (a b:List a_)(e:fT):tot (iJ a b) e=tot (gN a b) e:=by
 unfold iJ;rw[yz,wJ keys_nil];simp only[tot];grind
theorem iA {S T:Nat}(hS:1<=S){a b:List a_}(ha:PV S a)(hb:PV T b):PV (a.length*(S+T+1)+1) (iJ a b):=by
 refine Jb (wH keys_nil) (wK (fun p hp=>by cases hp) (LZ a b)) fun e => ?_
 have h1:tot (gM [] (gN a b)) e=tot (gN a b) e:=by
  rw[wJ keys_nil];simp only[tot];grind
 rw[h1];exact wM hS hb e ha.bd
end Fi.S
