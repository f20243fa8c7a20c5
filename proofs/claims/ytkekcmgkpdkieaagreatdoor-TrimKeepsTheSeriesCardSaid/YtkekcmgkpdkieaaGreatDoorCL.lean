import Derived.Test.YtkekcmgkpdkieaaGreatDoorCH
import Derived.Test.YtkekcmgkpdkieaaGreatDoorCF
set_option linter.unusedVariables false
set_option linter.unusedSimpArgs false
noncomputable section
namespace Fi.S
open Go Fi
abbrev gp:Type:=Int × Int × Int
def tot:List bz->gp->Rat
 | [],_=>0
 | (a,y)::r,e=>(if a=e then y else 0)+tot r e
theorem jJ (a b:List bz)(e:gp):tot (a++b) e=tot a e+tot b e:=by
 induction a with
 | nil=>simp[tot,Rat.zero_add]
 | cons p r ih=>simp only[Xe0,tot,ih];grind
theorem VE {a b:List bz}(h:a.Perm b)(e:gp):tot a e=tot b e:=by
 induction h with
 | nil=>rfl
 | cons p _ ih=>simp only[tot,ih]
 | swap p q l=>simp only[tot];grind
 | trans _ _ h1 h2=>rw[h1,h2]
theorem lF {l:List bz}{e:gp}(h:∀ p ∈ l,p.1≠e):tot l e=0:=by
 induction l with
 | nil=>rfl
 | cons p r ih =>
  have h1:=h p (Qj2 ..);have h2:=ih (fun q hq=>h q (Qg2 _ hq));simp only[tot,if_neg h1,h2];grind
theorem Nq (l:List bz)(e:gp):tot (l.filter fun p=>decide (p.2≠0)) e=tot l e:=by
 induction l with
 | nil=>rfl
 | cons p r ih =>
  obtain⟨a,y⟩:=p
  by_cases hy:y=0
  ·subst hy;rw[Q71 aC];simp only[tot,ih]
   by_cases h:a=e<;>simp[h,Rat.zero_add]
  ·rw[Q72 (by simpa using hy)];simp only[tot,ih]
theorem Rs {l:List bz}{e:gp}(h:mE l e=none):∀ p ∈ l,p.1≠e:=by
 induction l with
 | nil=>intro p hp;cases hp
 | cons q r ih =>
  intro p hp;unfold mE at h;split at h
  ·cases h
  ·rename_i hne;rcases Qj0.1 hp with rfl|hp
   ·exact fun he=>hne he.symm
   ·exact ih h p hp
theorem Dr {l:List bz}{e:gp}{y:Rat}(h:mE l e=some y):(e,y) ∈ l:=by
 induction l with
 | nil=>cases h
 | cons q r ih =>
  unfold mE at h;split at h
  ·rename_i he;cases h;subst he;exact Qj2 ..
  ·exact Qg2 _ (ih h)
theorem VF {l:List bz}{e:gp}{y:Rat}{p:bz}(h:p ∈ wC l e y):p=(e,y)\/p ∈ l:=by
 induction l with
 | nil=>simp only[wC,Q02]at h;exact .inl h
 | cons q r ih =>
  unfold wC at h;split at h
  ·rcases Qj0.1 h with rfl|h
   ·exact .inl rfl
   ·exact .inr (Qg2 _ h)
  ·rcases Qj0.1 h with rfl|h
   ·exact .inr (Qj2 ..)
   ·rcases ih h with h|h
    ·exact .inl h
    ·exact .inr (Qg2 _ h)
theorem FX (l:List bz)(e:gp)(y:Rat):(wC l e y).map (·.1)=l.map (·.1)\/((∀ p ∈ l,p.1≠e)/\(wC l e y).map (·.1)=l.map (·.1)++[e]):=by
 induction l with
 | nil=>exact .inr ⟨aC,rfl⟩
 | cons q r ih =>
  obtain⟨a,x⟩:=q;unfold wC
  by_cases h:e=a
  ·subst h;left;simp
  ·rw[if_neg h];rcases ih with ih|⟨h1,ih⟩
   ·left;simp only[Qd2,ih]
   ·right
    refine⟨fun p hp => ?_,by simp only[Qd2,ih,Xe0]⟩;rcases Qj0.1 hp with rfl|hp
    ·exact fun he=>h he.symm
    ·exact h1 p hp
def Keys (l:List bz):Prop:=(l.map (·.1)).Nodup
theorem VG {l:List bz}(h:Keys l)(e:gp)(y:Rat):Keys (wC l e y):=by
 unfold Keys at*;rcases FX l e y with h1|⟨h1,h2⟩
 ·rw[h1];exact h
 ·rw[h2,List.nodup_append];refine⟨h,aC,?_⟩;intro a ha b hb;simp only[Q02]at hb;subst hb;obtain⟨p,hp,rfl⟩:=Qg1.1 ha;exact h1 p hp
theorem aax {l:List bz}(h:Keys l)(e:gp)(y:Rat)(e':gp):tot (wC l e y) e'=if e=e' then y else tot l e':=by
 induction l with
 | nil=>simp only[wC,tot];split<;>grind
 | cons q r ih =>
  obtain⟨a,x⟩:=q;unfold Keys at h ih;simp only[Qd2,List.nodup_cons]at h;have hr:∀ p ∈ r,p.1≠a:=fun p hp he=>h.1 (he ▸ Qg1.2 ⟨p,hp,rfl⟩)
  unfold wC
  by_cases he:e=a
  ·subst he;rw[if_pos rfl];simp only[tot]
   by_cases h2:e=e'
   ·subst h2;simp only[if_pos,lF hr];grind
   ·simp only[if_neg h2]
  ·rw[if_neg he];simp only[tot,ih h.2]
   by_cases h2:e=e'
   ·subst h2;have:¬ a=e:=fun h3=>he h3.symm
    simp only[if_neg this,if_true];grind
   ·simp only[if_neg h2]
theorem VH {l:List bz}(h:Keys l)(e:gp):(mE l e).getD 0=tot l e:=by
 induction l with
 | nil=>rfl
 | cons q r ih =>
  obtain⟨a,x⟩:=q;unfold Keys at h ih;simp only[Qd2,List.nodup_cons]at h;have hr:∀ p ∈ r,p.1≠a:=fun p hp he=>h.1 (he ▸ Qg1.2 ⟨p,hp,rfl⟩)
  unfold mE
  by_cases he:e=a
  ·subst he;simp only[if_true,Q80,tot,lF hr];grind
  ·have h2:¬ a=e:=fun h3=>he h3.symm
   rw[if_neg he];simp only[tot,if_neg h2,ih h.2];grind
theorem J9 {l:List bz}(h:Keys l)(e:gp)(c:Rat):Keys (rV l e c):=VG h e _
theorem aay {l:List bz}(h:Keys l)(e:gp)(c:Rat)(e':gp):tot (rV l e c) e'=tot l e'+if e=e' then c else 0:=by
 unfold rV;rw[aax h,VH h]
 by_cases h2:e=e'
 ·subst h2;simp
 ·simp only[if_neg h2];grind
theorem eU (e:gp):lM e e=false:=by
 cases h:lM e e with
 | false=>rfl
 | true=>rw[mM]at h;omega
theorem pJ {a b c:gp}(h1:lM a b=true)(h2:lM b c=true):lM a c=true:=by
 rw[mM]at*;omega
def Srt (l:List bz):Prop:=l.Pairwise fun a b=>lM a.1 b.1=true
def Nz (l:List bz):Prop:=∀ p ∈ l,p.2≠0
theorem jy {l:List bz}(h:Srt l):Keys l:=by
 unfold Keys;rw[Xh0,Xl1];refine h.imp ?_;intro a b hab he;rw[he,eU]at hab;cases hab
theorem Pz:∀ {l m:List bz},Srt l->Srt m->Nz l->Nz m->(∀ e,tot l e=tot m e)->l=m
 | [],[],_,_,_,_,_=>rfl
 | [],(b,y)::m,_,hm,_,hn,h=>by
  have h1:=h b;have h2:tot m b=0:=lF fun p hp he=>by
   have:=(Qn1.1 hm).1 p hp;rw[he,eU]at this;cases this
  have h3:=hn (b,y) (Qj2 ..);simp only[tot,if_true,h2]at h1;grind
 | (a,x)::l,[],hl,_,hn,_,h=>by
  have h1:=h a;have h2:tot l a=0:=lF fun p hp he=>by
   have:=(Qn1.1 hl).1 p hp;rw[he,eU]at this;cases this
  have h3:=hn (a,x) (Qj2 ..);simp only[tot,if_true,h2]at h1;grind
 | (a,x)::l,(b,y)::m,hl,hm,hn,hk,h=>by
  have hl':=Qn1.1 hl;have hm':=Qn1.1 hm;have zl:∀ e,(e=a\/lM e a=true)->tot l e=0:=fun e he=>lF fun p hp hpe=>by
   have h1:=hl'.1 p hp;simp only at h1;rw[hpe]at h1;rcases he with rfl|he
   ·rw[eU]at h1;cases h1
   ·have:=pJ h1 he;rw[eU]at this;cases this
  have zm:∀ e,(e=b\/lM e b=true)->tot m e=0:=fun e he=>lF fun p hp hpe=>by
   have h1:=hm'.1 p hp;simp only at h1;rw[hpe]at h1;rcases he with rfl|he
   ·rw[eU]at h1;cases h1
   ·have:=pJ h1 he;rw[eU]at this;cases this
  have hx:=hn (a,x) (Qj2 ..);have hy:=hk (b,y) (Qj2 ..);have hab:a=b:=by
   cases h1:lM a b with
   | true =>
    have e1:=h a;have hne:¬ b=a:=fun h2=>by rw[h2,eU]at h1;cases h1
    simp only[tot,if_true,if_neg hne,zl a (.inl rfl),zm a (.inr h1)]at e1;grind
   | false =>
    cases h2:lM b a with
    | true =>
     have e1:=h b;have hne:¬ a=b:=fun h3=>by rw[h3,eU]at h2;cases h2
     simp only[tot,if_true,if_neg hne,zm b (.inl rfl),zl b (.inr h2)]at e1;grind
    | false=>exact kM h1 h2
  subst hab;have hxy:x=y:=by
   have e1:=h a;simp only[tot,if_true,zl a (.inl rfl),zm a (.inl rfl)]at e1;grind
  subst hxy;have:l=m:=Pz hl'.2 hm'.2 (fun p hp=>hn p (Qg2 _ hp)) (fun p hp=>hk p (Qg2 _ hp)) (fun e=>by
   have e1:=h e;simp only[tot]at e1;grind)
  rw[this]
def canon (l:List bz):List bz:=(l.filter fun p=>decide (p.2≠0)).mergeSort fun a b => !lM b.1 a.1
theorem zF (l:List bz)(e:gp):tot (canon l) e=tot l e:=by
 unfold canon;rw[VE (Q41 _ _),Nq]
theorem FY {l:List bz}{p:bz}:p ∈ canon l↔p ∈ l/\p.2≠0:=by
 unfold canon;rw[(Q41 _ _).mem_iff];simp
theorem VI (l:List bz):Nz (canon l):=fun p hp=>(FY.1 hp).2
theorem FZ {l:List bz}(h:Keys l):Srt (canon l):=by
 have h1:((canon l).map (·.1)).Nodup:=by
  have hp:(canon l).Perm (l.filter fun p=>decide (p.2≠0)):=Q41 _ _;refine((hp.map (·.1)).nodup_iff).2 ?_;exact Xv2 (List.filter_sublist.map _) h
 have h2:(canon l).Pairwise fun a b=>(!lM b.1 a.1)=true:=by
  refine Xx2 (fun a b c hab hbc => ?_) (fun a b => ?_) _
  ·simp only[Qt2,Bool.not_eq_eq_eq_not,Xk2]at*;cases h3:lM c.1 a.1 with
   | false=>rfl
   | true =>
    cases h4:lM b.1 c.1 with
    | true=>have:=pJ h4 h3;rw[this]at hab;cases hab
    | false =>
     have:=kM h4 hbc;rw[this]at hab;rw[hab]at h3;cases h3
  ·cases h3:lM b.1 a.1 with
   | false=>rfl
   | true =>
    cases h4:lM a.1 b.1 with
    | false=>rfl
    | true=>have:=pJ h3 h4;rw[eU]at this;cases this
 rw[Xh0,Xl1]at h1;refine(h1.and h2).imp ?_;rintro a b ⟨hne,hle⟩;simp only[Qt2,Bool.not_eq_eq_eq_not,Xk2]at hle;cases h3:lM a.1 b.1 with
 | true=>rfl
 | false=>exact absurd (kM h3 hle) hne
def gW (l ms:List bz):List bz:=ms.foldl (fun s p=>rV s p.1 p.2) l
theorem zG (l:List bz)(p:bz)(ms:List bz):gW l (p::ms)=gW (rV l p.1 p.2) ms:=rfl
theorem J_ (l a b:List bz):gW l (a++b)=gW (gW l a) b:=by simp[gW,Xl2]
theorem xK:∀ {ms l:List bz},Keys l->Keys (gW l ms)
 | [],_,h=>h
 | p::ms,l,h=>xK (ms:=ms) (J9 h p.1 p.2)
theorem xL:∀ {ms l:List bz},Keys l->∀ e,tot (gW l ms) e=tot l e+tot ms e
 | [],l,h,e=>by simp only[gW,List.foldl_nil,tot];grind
 | p::ms,l,h,e=>by
  rw[zG,xL (J9 h p.1 p.2),aay h];simp only[tot];grind
theorem put_mem {l:List bz}{e:gp}{c:Rat}{p:bz}(h:p ∈ rV l e c):p=(e,(mE l e).getD 0+c)\/p ∈ l:=VF h
def Fits (l:List bz):Prop:=∀ p ∈ l,bT p.1=true
def Bd (S:Nat)(l:List bz):Prop:=∀ p ∈ l,qz p.2<=S
theorem Bd.mono {S T:Nat}{l:List bz}(h:Bd S l)(hST:S<=T):Bd T l:=fun p hp=>Qd1 (h p hp) hST
theorem VJ {l:List bz}(h:Fits l){e:gp}(he:bT e=true)(c:Rat):Fits (rV l e c):=by
 intro p hp;rcases put_mem hp with rfl|hp
 ·exact he
 ·exact h p hp
theorem aen {S:Nat}{l:List bz}(h:Bd S l)(e:gp){c:Rat}{T:Nat}(hc:qz c<=T):Bd (S+T+1) (rV l e c):=by
 intro p hp;rcases put_mem hp with rfl|hp
 ·show qz ((mE l e).getD 0+c)<=_;cases hg:mE l e with
  | none =>
   have:(0:Rat)+c=c:=Rat.zero_add c;simp only[Option.getD_none,this];omega
  | some y =>
   have h1:=h _ (Dr hg);have h2:=qy y c;simp only[Q80]at*;omega
 ·have:=h p hp;omega
theorem Nr (l:List bz)(e:gp)(c:Rat):(rV l e c).length<=l.length+1:=by
 have:((rV l e c).map (·.1)).length<=(l.map (·.1)).length+1:=by
  unfold rV;rcases FX l e ((mE l e).getD 0+c) with h|⟨_,h⟩
  ·rw[h];omega
  ·rw[h];simp
 simpa using this
theorem xM:∀ {ms l:List bz},Fits l->Fits ms->Fits (gW l ms)
 | [],_,h,_=>h
 | p::ms,l,h,hm=>xM (ms:=ms) (VJ h (hm p (Qj2 ..)) p.2) (fun q hq=>hm q (Qg2 _ hq))
theorem Ns {T:Nat}:∀ {ms l:List bz} {S:Nat},Bd S l->Bd T ms->Bd (S+ms.length*(T+1)) (gW l ms)
 | [],_,_,h,_=>h.mono aC
 | p::ms,l,S,h,hm=>by
  have:=Ns (ms:=ms) (aen h p.1 (hm p (Qj2 ..))) (fun q hq=>hm q (Qg2 _ hq));rw[zG];refine this.mono ?_;rw[Qf1,Qr0];omega
theorem wE:∀ {ms l:List bz},(gW l ms).length<=l.length+ms.length
 | [],_=>by simp[gW]
 | p::ms,l=>by
  have h1:=wE (ms:=ms) (l:=rV l p.1 p.2);have h2:=Nr l p.1 p.2;rw[zG,Qf1];omega
structure PV (S:Nat)(l:List bz):Prop where
 Nt:Srt l
 nz:Nz l
 fits:Fits l
 bd:Bd S l
theorem PV.mono {S T:Nat}{l:List bz}(h:PV S l)(hST:S<=T):PV T l:=⟨h.Nt,h.nz,h.fits,h.bd.mono hST⟩
theorem PV.nil (S:Nat):PV S []:=⟨List.Pairwise.nil,fun _ hp=>(by cases hp),fun _ hp=>(by cases hp),fun _ hp=>(by cases hp)⟩
theorem PV.ext {S T:Nat}{l m:List bz}(h:PV S l)(k:PV T m)(e:∀ e,tot l e=tot m e):l=m:=Pz h.Nt k.Nt h.nz k.nz e
theorem Ka:∀ (n:Nat) (l:List Nat),l.Nodup->(∀ x ∈ l,x<n)->l.length<=n
 | 0,l,_,h=>by
  cases l with
  | nil=>simp
  | cons x r=>exact absurd (h x (Qj2 ..)) ae
 | n+1,l,hn,h=>by
  have h1:=Ka n (l.erase n) (hn.erase n) (fun x hx=>by
   have h2:=h x (List.mem_of_mem_erase hx);have h3:x≠n:=fun e=>by subst e;exact(List.Nodup.mem_erase_iff hn).1 hx |>.1 rfl
   omega)
  have h2:=List.length_erase_of_mem (a:=n) (l:=l)
  by_cases hm:n ∈ l
  ·have:=h2 hm;omega
  ·rw[List.erase_of_not_mem hm]at h1;omega
theorem fG {e:gp}(h:bT e=true):0<=e.1/\e.1<=5/\0<=e.2.1/\e.2.1<=5/\0<=e.2.2/\e.2.2<=5/\e.1+e.2.1+e.2.2<=5:=by
 unfold bT lK at h;simp at h;omega
theorem VK {e:gp}:bT e=true↔0<=e.1/\0<=e.2.1/\0<=e.2.2/\e.1+e.2.1+e.2.2<=5:=by
 unfold bT lK;simp;omega
theorem VL {e:gp}(h:bT e=true):HZ e<=5:=by
 have h':=fG h;unfold bT at h;simp only[Qc1]at h;rw[vZ h.1.1.1 h.1.1.2 h.1.2];omega
theorem Aq {l:List bz}(hk:Keys l)(hf:Fits l):l.length<=216:=by
 have h1:(l.map fun p=>(36*p.1.1+6*p.1.2.1+p.1.2.2).toNat).Nodup:=by
  unfold Keys at hk;rw[Xh0,Xl1]at hk ⊢;refine(List.Pairwise.and_mem.1 hk).imp ?_;rintro a b ⟨ha,hb,hne⟩ he;apply hne;have h2:=fG (hf a ha);have h3:=fG (hf b hb);have:a.1.1=b.1.1/\a.1.2.1=b.1.2.1/\a.1.2.2=b.1.2.2:=ae;obtain⟨⟨x,y,z⟩,q⟩:=a;obtain⟨⟨x',y',z'⟩,q'⟩:=b;simp only at this;obtain⟨rfl,rfl,rfl⟩:=this;rfl
 have h2:=Ka 216 _ h1 (fun x hx=>by
  obtain⟨p,hp,rfl⟩:=Qg1.1 hx;have:=fG (hf p hp);omega)
 simpa using h2
theorem PV.length {S:Nat}{l:List bz}(h:PV S l):l.length<=216:=Aq (jy h.Nt) h.fits
def gN (a b:List bz):List bz:=canon (gW [] (a++b))
theorem keys_nil:Keys []:=List.nodup_nil
theorem j4 (a b:List bz)(e:gp):tot (gN a b) e=tot a e+tot b e:=by
 unfold gN;rw[zF,xL keys_nil,jJ];simp only[tot];grind
set_option maxHeartbeats 8000000
def cc1:aG:=f207.body.r.r.l.r.bl.lp
def PE:aG:=f207.body.r.r.r.r.l.r.bl.lp
def moZ:D:=.a [vI 0,vI 0,vI 0,vB false,.s 1 [],.s 1 []]
def uN (a b:List D):FV:=.d (.s 1 [.s 6 a,.s 6 b])
def tq (a b:List D)(k acc:Nat)(t:FV):St:=(st0 [uN a b,.u,dI acc,.u,.u,.u,uN a b,dI 2,dI k,t,.u,.u,.u,.u,.u] [])
def lQ (a b:List D)(k:Nat)(acc:FV)(L:List ai)(t:FV)(dy:Bool:=false):St:={vars:=[.u,.u,.u,.u,acc,.u,.u,.u,.u,.u,.u,uN a b,dI 2,dI k,t],base:=[],loc:=L,aR:=dy}
theorem w1':ak .i64 1=1:=wrap_i64 ae
theorem w2':ak .i64 2=2:=wrap_i64 ae
theorem ahv (a b:List D)(h:a.length<=1000000):Ex E0 cc1 (tq a b 0 0 .u) (.norm,tq a b 1 a.length .u):=by
 have w:ak .i64 (a.length:Int)=a.length:=wrap_i64 ae;have h0:¬ ((a.length:Int)<0):=ae;apply e6;unfold tq uN;simp[cc1,f207,w,h0,w1']
theorem ahw (a b:List D)(h:a.length<=1000000)(h':b.length<=1000000):Ex E0 cc1 (tq a b 1 a.length .u) (.norm,tq a b 2 (a.length+b.length) .u):=by
 have w:ak .i64 ((a.length:Int)+(b.length:Int))=(a.length:Int)+(b.length:Int):=wrap_i64 ae;have h0:¬ ((a.length:Int)+(b.length:Int)<0):=ae;apply e6;unfold tq uN;simp only[Int.natCast_add];simp[cc1,f207,w,h0,w2']
theorem ahx (a b:List D)(n:Nat):Ex E0 cc1 (tq a b 2 n .u) (.exit 0,tq a b 2 n (dB false)):=by
 apply e6;unfold tq uN;simp[cc1,f207]
theorem aaA (a b:List D)(h:a.length<=1000000)(h':b.length<=1000000):Ex E0 (.loop cc1) (tq a b 0 0 .u) (.exit 0,tq a b 2 (a.length+b.length) (dB false)) :=
 (ahv a b h).next ((ahw a b h h').next ((ahx a b _).leave aC))
theorem acP (a b:List D)(acc:FV)(L:List ai)(dy:Bool):Ex E0 PE (lQ a b 2 acc L .u dy) (.exit 2,lQ a b 2 acc L (dB false) dy):=by
 apply e6;unfold lQ uN;simp[PE,f207]
theorem PG (a b:List D)(k:Nat)(hk:k<2)(ha:a=[])(hb:b=[]):Ex E0 PE (lQ a b k (.d (.n 6)) [] .u) (.norm,lQ a b (k+1) (.d (.n 6)) [] .u):=by
 subst ha hb;apply e6;unfold lQ uN
 match k,hk with
 | 0,_=>simp[PE,f207,w1',most]
 | 1,_=>simp[PE,f207,w2',most]
theorem ahy (a b R:List D)(h:a.length<=1000000):Ex E0 PE (lQ a b 0 (.ls (.loc 0) 0 6 0 0) [.row 0 6 R] .u) (.norm,lQ a b 1 (.ls (.loc 0) 1 6 0 a.length) [.row 1 6 a] .u):=by
 have h1:a.length*80<=most:=by unfold most;omega
 have h2:a.length<=most:=by unfold most;omega
 apply e6;unfold lQ uN;simp[PE,f207,w1',h1,h2]
theorem ahz (a b:List D)(h:a.length<=1000000)(h':b.length<=1000000):Ex E0 PE (lQ a b 1 (.ls (.loc 0) 1 6 0 a.length) [.row 1 6 a] .u) (.norm,lQ a b 2 (.ls (.loc 0) 2 6 0 (a.length+b.length)) [.row 2 6 (a++b)] .u):=by
 have h1:(a.length+b.length)*80<=most:=by unfold most;omega
 have h2:a.length+b.length<=most:=by unfold most;omega
 apply e6;unfold lQ uN;simp[PE,f207,w2',h1,h2]
theorem VM (n m:Nat)(h0:0<n)(h:n<=2000000):CL E0 (m+100) 258 [.d (.n 6),dI n] []=some (.ls (.old 0) 0 6 0 0,some [.row 0 6 (List.replicate n moZ)]):=by
 have w0:ak .i64 0=0:=wrap_i64 ae;have wn:ak .i64 (n:Int)=n:=wrap_i64 ae;have g0:¬ ((n:Int)<0):=ae;have g1:(0:Int)<n:=ae;have h1:(n:Int)*80<=most:=by unfold most;omega
 have h2:(n:Int)<=most:=by unfold most;omega
 rw[aB rfl (k258:E0.fn _=_) rfl];simp[f258,FV.aA,ai.aA,kK,Hd,w0,wn,g0,g1,h1,h2,moZ,h0]
theorem Rt (a b:List D)(ha:a.length<=1000000)(hb:b.length<=1000000):∃ o,Ca E0 207 [uN a b] (.d (.s 6 (a++b)),o)/\(o=none\/∃ x,o=some [x]):=by
 have w0:ak .i64 0=0:=wrap_i64 ae;have hA:Ex E0 f207.body.l (st0 (uN a b::G9) []) (.norm,(st0 (uN a b::G9) [])):=by
  apply e6;unfold uN;simp[f207]
 have hB:Ex E0 f207.body.r.l (st0 (uN a b::G9) []) (.norm,(st0 (uN a b::.u::dI 0::BZ) [])):=by
  apply e6;unfold uN;simp[f207]
 have hC:Ex E0 f207.body.r.r.l.l (st0 (uN a b::.u::dI 0::BZ) []) (.norm,tq a b 0 0 .u):=by
  apply e6;unfold uN tq uN;simp[f207]
 have hL:=aaA a b ha hb;have hN:∃ acc L,Ex E0 (.loop PE) (lQ a b 0 acc L .u) (.exit 2,lQ a b 2 acc L .u)\/True:=⟨.u,[],.inr trivial⟩
 clear hN
 by_cases hn:a.length+b.length=0
 ·obtain rfl:a=[]:=Qo2 ae;obtain rfl:b=[]:=Qo2 ae;have hD:Ex E0 f207.body.r.r.r.l (tq [] [] 2 (0+0) (dB false)) (.norm,(st0 (uN [] []::.u::.u::.u::.d (.n 6)::qj) [])):=by
   have t:∀ m,CL E0 (m+100) 258 [.d (.n 6),dI 0] []=some (.d (.n 6),none):=by
    intro m;rw[aB rfl (k258:E0.fn _=_) rfl];simp[f258,w0]
   refine Ex.of (n:=200) ?_;unfold tq uN;simp[f207,t,FV.aT,FV.aA,ai.aA]
  have hE:Ex E0 f207.body.r.r.r.r.l.l (st0 (uN [] []::.u::.u::.u::.d (.n 6)::qj) []) (.norm,lQ [] [] 0 (.d (.n 6)) [] .u):=by
   apply e6;unfold uN lQ uN;simp[f207]
  have hF:Ex E0 f207.body.r.r.r.r.r (lQ [] [] 2 (.d (.n 6)) [] (dB false)) (.ret,(st0 (.u::.d (.n 6)::Jm) [])):=by
   apply e6;unfold lQ uN;simp[f207]
  have hM:Ex E0 (.loop PE) (lQ [] [] 0 (.d (.n 6)) [] .u) (.exit 2,lQ [] [] 2 (.d (.n 6)) [] (dB false)) :=
   (PG [] [] 0 ae rfl rfl).next ((PG [] [] 1 ae rfl rfl).next ((acP [] [] _ _ _).leave aC))
  refine⟨none,Ca.body (o:=.ret) rfl (k207:E0.fn _=_) rfl ?_ (by intro id h;cases h) (st1:=(st0 (.u::.d (.n 6)::Jm) [])) ?_,.inl rfl⟩
  ·show Ex E0 (.seq f207.body.l (.seq f207.body.r.l (.seq (.seq f207.body.r.r.l.l (.block 0 (.loop cc1))) (.seq f207.body.r.r.r.l (.seq (.seq f207.body.r.r.r.r.l.l (.block 2 (.loop PE))) f207.body.r.r.r.r.r))))) _ _;exact hA.seq (hB.seq ((hC.seq hL.block).seq (hD.seq ((hE.seq hM.block).seq hF))))
  ·simp[f207]
 ·have hD:Ex E0 f207.body.r.r.r.l (tq a b 2 (a.length+b.length) (dB false)) (.norm,(st0 (uN a b::.u::.u::.u::.ls (.loc 0) 0 6 0 0::qj) [.row 0 6 (List.replicate (a.length+b.length) moZ)])):=by
   have t:=fun m=>VM (a.length+b.length) m ae ae
   refine Ex.of (n:=200) ?_;unfold tq uN;generalize a.length+b.length=n at*;generalize List.replicate n moZ=R at*;simp[f207,t,FV.aT,FV.aA,ai.aA]
  have hE:Ex E0 f207.body.r.r.r.r.l.l (st0 (uN a b::.u::.u::.u::.ls (.loc 0) 0 6 0 0::qj) [.row 0 6 (List.replicate (a.length+b.length) moZ)]) (.norm,lQ a b 0 (.ls (.loc 0) 0 6 0 0) [.row 0 6 (List.replicate (a.length+b.length) moZ)] .u):=by
   apply e6;unfold uN lQ uN;generalize List.replicate (a.length+b.length) moZ=R at*;simp[f207]
  have hF:Ex E0 f207.body.r.r.r.r.r (lQ a b 2 (.ls (.loc 0) 2 6 0 (a.length+b.length)) [.row 2 6 (a++b)] (dB false)) (.ret,(st0 (.u::.ls (.loc 0) 2 6 0 (a.length+b.length)::Jm) ([.row 2 6 (a++b)]))):=by
   apply e6;unfold lQ uN;simp[f207]
  have hM:Ex E0 (.loop PE) (lQ a b 0 (.ls (.loc 0) 0 6 0 0) [.row 0 6 (List.replicate (a.length+b.length) moZ)] .u) (.exit 2,lQ a b 2 (.ls (.loc 0) 2 6 0 (a.length+b.length)) [.row 2 6 (a++b)] (dB false)) :=
   (ahy a b _ ha).next ((ahz a b ha hb).next ((acP a b _ _ _).leave aC))
  refine⟨none,Ca.body (o:=.ret) rfl (k207:E0.fn _=_) rfl ?_ (by intro id h;cases h) (st1:=(st0 (.u::.ls (.loc 0) 2 6 0 (a.length+b.length)::Jm) ([.row 2 6 (a++b)]))) ?_,.inl rfl⟩
  ·show Ex E0 (.seq f207.body.l (.seq f207.body.r.l (.seq (.seq f207.body.r.r.l.l (.block 0 (.loop cc1))) (.seq f207.body.r.r.r.l (.seq (.seq f207.body.r.r.r.r.l.l (.block 2 (.loop PE))) f207.body.r.r.r.r.r))))) _ _;exact hA.seq (hB.seq ((hC.seq hL.block).seq (hD.seq ((hE.seq hM.block).seq hF))))
  ·have e1:ai.view 2 6 0 (a.length+b.length) (.row 2 6 (a++b))=some (a++b):=by
    have:List.take (a.length+b.length) (a++b)=a++b:=by rw[<-Qb0,Qj1]
    simp[ai.view,this]
   clear hA hB hC hL hD hE hF hM hn;simp[f207,e1,FV.aA,ai.aA]
def bu (l:List bz):D:=.s 6 (l.map fun p=>qC p.1 p.2)
def vK (p:bz):Mo:=⟨p.1,qs p.2,qn p.2,qd p.2⟩
theorem H7 (l:List bz):bu l=PD (l.map vK):=by
 unfold bu PD;rw[Q60];rfl
theorem VN {l:List bz}:pI l=bu (canon l):=by
 unfold pI bu canon;have h1:l.flatMap eT=(l.filter fun p=>decide (p.2≠0)).map fun p=>qC p.1 p.2:=by
  induction l with
  | nil=>rfl
  | cons p r ih =>
   by_cases hp:p.2=0
   ·rw[Q71 (by simpa using hp)];simp[Xf2,eT,hp,ih]
   ·rw[Q72 (by simpa using hp)];simp[Xf2,eT,hp,ih]
 rw[h1,<-List.map_mergeSort (r:=fun a b => !lM b.1 a.1)];intro a _ b _;rfl
theorem aaB {S:Nat}{l:List bz}(h:Bd S l){e:gp}{y:Rat}(hy:mE l e=some y):qz y<=S:=h _ (Dr hy)
def paL:aG:=f155.body.r.r.l.r.bl.lp
def Ru (es:List D)(k:Nat)(L:List ai)(t:FV):St:=(st0 [.u,.u,.u,.m (.loc 0),.u,.d (.s 6 es),dI es.length,dI k,t] L)
theorem VO (es:List D)(k:Nat)(L:List ai)(l:List bz)(p:bz)(hn:es.length<=1000000)(hk:es[k]?=some (qC p.1 p.2))(hL:L[0]?=some (.map (l.map jm)))(hp:qz p.2<=50000)(hl:Bd 50000 l)(hf:bT p.1=true) :
  ∃ L',Ex E1 paL (Ru es k L .u) (.norm,Ru es (k+1) L' .u)/\L'[0]?=some (.map ((rV l p.1 p.2).map jm)):=by
 obtain⟨e,x⟩:=p;have hkl:k<es.length:=(aU hk)
 have hB:(List.map (ai.aA 0) (L++[ai.box [dI e.1,dI e.2.1,dI e.2.2,dB (qs x),.d (LD (qn x)),.d (LD (qd x))]]))[0]?=some (.map (l.map jm)):=by
  cases L with
  | nil=>cases hL
  | cons o r=>simp only[Qx0,Qe2]at hL;subst hL;rfl
 obtain⟨N,B',t,hlen,hB'⟩:=J7 _ 0 l hB e x hp (fun y hy=>aaB hl hy) (VL hf);refine⟨B',Ex.of (n:=N+200) ?_,hB'⟩;have aS:ak .i64 ((k:Int)+1)=(k:Int)+1:=wrap_i64 ae;have hk1:((k+1:Nat):Int)=(k:Int)+1:=ae;have hk0:(0:Int)<=(k:Int):=ae;have hkc:(k:Int)<(es.length:Int):=ae;clear hB hB' hlen hp hl hf;obtain⟨a,b,c⟩:=e;unfold Ru;rw[hk1];simp only[qC,Bi,mG,qD,raw]at*;generalize qs x=s at*;simp only[LD]at*;generalize LL (qn x)=ns,LL (qd x)=ds at*;have i1:=idx hk;simp only[Qq2,Qd2,Qc2,ai.aA,FV.aT,FV.aA]at t;simp[paL,f155,aS,hk0,hkc,hk,i1,t,FV.aA,FV.aT,ai.aA]
theorem VP {ms:List bz}{k:Nat}{p:bz}(h:ms[k]?=some p):gW [] (ms.take (k+1))=rV (gW [] (ms.take k)) p.1 p.2:=by
 rw[Xa2,h];show gW [] (ms.take k++[p])=_;rw[J_];rfl
theorem aaC (ms:List bz)(L:List ai)(S:Nat)(hn:ms.length<=1000000)(hL:L[0]?=some (.map []))(hf:Fits ms)(hb:Bd S ms)(hS:S<=50000)(hm:ms.length*(S+1)<=50000) :
  ∃ L',Ex E1 (.loop paL) (Ru (ms.map fun p=>qC p.1 p.2) 0 L .u) (.exit 0,Ru (ms.map fun p=>qC p.1 p.2) ms.length L' (dB false))/\L'[0]?=some (.map ((gW [] ms).map jm)):=by
 have hlen:(ms.map fun p=>qC p.1 p.2).length=ms.length:=aC;obtain⟨r,h1,L',h2,h3⟩:=Ex.inv (E:=E1) (b:=paL) (α:=Nat × List ai) (S:=fun a=>Ru (ms.map fun p=>qC p.1 p.2) a.1 a.2 .u) (fun a=>ms.length-a.1)
  (fun a=>a.1<=ms.length/\a.2[0]?=some (.map ((gW [] (ms.take a.1)).map jm))) (fun r=>∃ L',r=(.exit 0,Ru (ms.map fun p=>qC p.1 p.2) ms.length L' (dB false))/\L'[0]?=some (.map ((gW [] ms).map jm))) (by
   rintro⟨k,L⟩ ⟨q1,q2⟩;simp only at q1 q2
   by_cases hk:k<ms.length
   ·have hp:ms[k]?=some ms[k]:=Qa1 hk;have hpm:ms[k] ∈ ms:=Qi2 hk;have hp2:(ms.map fun p=>qC p.1 p.2)[k]?=some (qC ms[k].1 ms[k].2):=by rw[Qc0,hp];rfl
    have hbd:Bd 50000 (gW [] (ms.take k)):=by
     refine(Ns (S:=0) (T:=S) (fun p hp=>by cases hp) (fun p hp=>hb p (Qo1 hp))).mono ?_;rw[Qk0,Qy1];exact Qd1 (Qf0 _ (Nat.min_le_right _ _)) hm
    obtain⟨L',g1,g2⟩:=VO _ k L _ ms[k] (by rw[hlen];exact hn) hp2 q2 (Qd1 (hb _ hpm) hS) hbd (hf _ hpm);refine .inl ⟨(k+1,L'),g1,by show ms.length-(k+1)<ms.length-k;omega,by show k+1<=_;omega,?_⟩;show L'[0]?=some (.map ((gW [] (ms.take (k+1))).map jm));rw[VP hp];exact g2
   ·obtain rfl:k=ms.length:=ae;rw[Qj1]at q2;refine .inr ⟨_,Ex.of (n:=60) ?_,?_,L,rfl,q2⟩
    ·simp only[Ru,hlen];generalize (ms.map fun p=>qC p.1 p.2)=es,ms.length=n at*;simp[paL,f155]
    ·simp) (0,L) ⟨Qz2 _,hL⟩
 subst h2;exact⟨L',h1,h3⟩
theorem BK {S:Nat}:∀ {l:List bz} {q:Option Mo},PV S l->(∀ m,q=some m->∀ p ∈ l,lM m.e p.1=true)->Al q (l.map vK)=true
 | [],_,_,_=>by simp[Al]
 | p::l,q,h,hq=>by
  have hs:=Qn1.1 h.Nt;have hfit:(vK p).fits=true:=by
   unfold Mo.fits vK;have h1:=h.fits p (Qj2 ..);have h2:qn p.2≠[]:=by
    have h3:=h.nz p (Qj2 ..);intro h4;have h5:p.2.num.natAbs=0:=by
     have:=a_ (p.2.num.natAbs);unfold qn at h4;rw[h4]at this;simpa[val] using this.symm
    exact h3 (Rat.num_eq_zero.1 (Xv0.1 h5))
   simp[h1,h2,uE]
  have hr:Al (some (vK p)) (l.map vK)=true:=BK (S:=S) ⟨hs.2,fun x hx=>h.nz x (Qg2 _ hx),fun x hx=>h.fits x (Qg2 _ hx),fun x hx=>h.bd x (Qg2 _ hx)⟩ (fun m hm x hx=>by cases hm;exact hs.1 x hx);cases q with
  | none=>simp only[Qd2,Al,hfit,hr,Bool.and_self]
  | some m =>
   have h6:jv m.e (vK p).e<0:=of_decide_eq_true (hq m rfl p (Qj2 ..));simp only[Qd2,Al,hfit,hr,decide_eq_true h6,Bool.and_self]
theorem VQ {S:Nat}{l:List bz}(h:PV S l)(hS:S<=1000):Po (l.map vK):=by
 refine⟨fun m hm => ?_,by have:=h.length;simp;omega⟩;obtain⟨p,hp,rfl⟩:=Qg1.1 hm;have hb:=h.bd p hp;have h1:(qn p.2).length<=qz p.2:=Q21 _ _;have h2:(qd p.2).length<=qz p.2:=by
  unfold qd;split
  ·simp
  ·exact Q12 _ _
 exact⟨Hr _,Ht _,Qd1 h1 (Qd1 hb hS),Qd1 h2 (Qd1 hb hS)⟩
theorem F3 {S:Nat}{l:List bz}(h:PV S l)(hS:S<=1000):Ca E1 208 [.d (bu l)] (.d (bu l),none):=by
 have h1:=FP _ (VQ h hS);rw[BK h (fun m hm=>by cases hm),<-H7]at h1;obtain⟨N,t⟩:=(Ca.gV h1).get;refine Ca.bQ (n:=N+60) ?_;rw[aB rfl (aO 208 f208:E1.fn _=_) rfl];unfold bu at*;generalize (l.map fun p=>qC p.1 p.2)=es at*;simp[f208,t]
theorem Nu {S:Nat}{ms:List bz}(hf:Fits ms)(hb:Bd S ms)(hm:ms.length*(S+1)<=50000):wz (gW [] ms)=true:=by
 have hk:Keys (gW [] ms):=xK keys_nil;have hF:Fits (gW [] ms):=xM (fun p hp=>by cases hp) hf;have hB:Bd (0+ms.length*(S+1)) (gW [] ms):=Ns (fun p hp=>by cases hp) hb;have hl:=Aq hk hF;unfold wz;simp only[Qc1,decide_eq_true_eq,Qh0];exact⟨⟨hk,fun p hp=>by have:=hB p hp;omega⟩,ae⟩
theorem Rv {S:Nat}{L:List ai}{ms:List bz}(hL:L[0]?=some (.map ((gW [] ms).map jm)))(hf:Fits ms)(hb:Bd S ms)(hm:ms.length*(S+1)<=50000)(m:Nat) :
  CL E1 m 206 [.m (.old 0)] (List.map (ai.aA 0) L)=some (.d (bu (canon (gW [] ms))),none):=by
 have hB:(List.map (ai.aA 0) L)[0]?=some (.map ((gW [] ms).map jm)):=by rw[Qc0,hL];rfl
 rw[FW m 0 _ _ hB (Nu hf hb hm),VN]
theorem aaD {S:Nat}{a b:List bz}(ha:PV S a)(hb:PV S b)(hS:S<=1000)(hm:(a++b).length*(S+1)<=50000):Ca E1 155 [.d (bu a),.d (bu b)] (.d (bu (gN a b)),none):=by
 have hf:Fits (a++b):=fun p hp=>by
  rcases Qw2.1 hp with hp|hp
  ·exact ha.fits p hp
  ·exact hb.fits p hp
 have hB:Bd S (a++b):=fun p hp=>by
  rcases Qw2.1 hp with hp|hp
  ·exact ha.bd p hp
  ·exact hb.bd p hp
 have la:=ha.length;have lb:=hb.length;have hlen:(a++b).length<=1000000:=by rw[Qb0];omega
 obtain⟨N1,t1⟩:=(F3 ha hS).any;obtain⟨N2,t2⟩:=(F3 hb hS).any;obtain⟨o,hc,ho⟩:=Rt (a.map fun p=>qC p.1 p.2) (b.map fun p=>qC p.1 p.2) (by simp;omega) (by simp;omega);obtain⟨N3,t3⟩:=(Ca.gV hc).any;obtain⟨M,hM⟩:∃ M,M=N1+N2+N3:=⟨_,rfl⟩
 replace t1:=t1 M ae;replace t2:=t2 M ae;replace t3:=t3 M ae;have e1:(a.map fun p=>qC p.1 p.2)++(b.map fun p=>qC p.1 p.2)=(a++b).map fun p=>qC p.1 p.2:=aC
 rw[e1]at t3;have hAB:Ex E1 f155.body.l (st0 (.d (bu a)::.d (bu b)::qi) []) (.norm,(st0 (.d (bu a)::.d (bu b)::qi) [])):=by
  apply e6;generalize bu a=x1;generalize bu b=x2;simp[f155]
 have hMk := nx hAB f155.body.r.l (st0 (.d (bu a)::.d (bu b)::.u::.m (.loc 0)::jP) [.map []]) (by
  apply e6;generalize bu a=x1;generalize bu b=x2;simp[f155])
 have hC:∃ L,L[0]?=some (.map [])/\Ex E1 f155.body.r.r.l.l (st0 (.d (bu a)::.d (bu b)::.u::.m (.loc 0)::jP) [.map []]) (.norm,Ru ((a++b).map fun p=>qC p.1 p.2) 0 L .u):=by
  rcases ho with rfl|⟨x,rfl⟩
  ·refine⟨[.map []],rfl,Ex.of (n:=M+100) ?_⟩;unfold bu Ru uN at*;generalize ((a++b).map fun p=>qC p.1 p.2)=es,(a.map fun p=>qC p.1 p.2)=es1,(b.map fun p=>qC p.1 p.2)=es2 at*;simp[f155,t1,t2,t3]
  ·refine⟨[.map [],ai.shift 1 x],rfl,Ex.of (n:=M+100) ?_⟩;unfold bu Ru uN at*;generalize ((a++b).map fun p=>qC p.1 p.2)=es,(a.map fun p=>qC p.1 p.2)=es1,(b.map fun p=>qC p.1 p.2)=es2 at*;simp[f155,t1,t2,t3]
 obtain⟨L,hL,hC⟩:=hC;obtain⟨L',hl,hL'⟩:=aaC (a++b) L S hlen hL hf hB ae hm;have t4:=fun m=>Rv hL' hf hB hm m
 have PH:bu (canon (gW [] (a++b)))=bu (gN a b):=rfl;rw[PH]at t4;have hD:Ex E1 f155.body.r.r.r (Ru ((a++b).map fun p=>qC p.1 p.2) (a++b).length L' (dB false)) (.ret,(st0 (.u::.u::.d (bu (gN a b))::rM) (L'))):=by
  refine Ex.of (n:=100) ?_;unfold bu Ru at*;generalize ((a++b).map fun p=>qC p.1 p.2)=es,((gN a b).map fun p=>qC p.1 p.2)=es1 at*;simp[f155,t4,FV.aA,FV.aT]
 refine Ca.body (o:=.ret) (st1:=(st0 (.u::.u::.d (bu (gN a b))::rM) (L'))) rfl (aO 155 f155:E1.fn _=_) rfl ?_ (by intro id h;cases h) ?_
 ·show Ex E1 (.seq f155.body.l (.seq f155.body.r.l (.seq (.seq f155.body.r.r.l.l (.block 0 (.loop paL))) f155.body.r.r.r))) _ _;exact hAB.seq (hMk.seq ((hC.seq hl.block).seq hD))
 ·unfold bu;generalize ((gN a b).map fun p=>qC p.1 p.2)=es1 at*;simp[f155]
def oq (p:bz):ai:=.box [dI p.1.1,dI p.1.2.1,dI p.1.2.2,dB (qs p.2),.d (LD (qn p.2)),.d (LD (qd p.2))]
def iO (a b:gp):gp:=(a.1+b.1,a.2.1+b.2.1,a.2.2+b.2.2)
def tu (p:bz)(b:List bz):List bz:=(b.map fun q=>(iO p.1 q.1,p.2*q.2)).filter fun x=>bT x.1
def gX (a b:List bz):List bz:=a.flatMap fun p=>tu p b
theorem H8 (p:bz)(b:List bz):(tu p b).length<=b.length:=by
 unfold tu;exact Qd1 (Xh2 _ _) aC
theorem Nv (p:bz)(b:List bz):Fits (tu p b):=fun x hx=>(Qu0.1 hx).2
theorem H9 (a b:List bz):(gX a b).length<=a.length*b.length:=by
 induction a with
 | nil=>simp[gX]
 | cons p r ih =>
  have h1:gX (p::r) b=tu p b++gX r b:=by simp[gX]
  have h2:=H8 p b;rw[h1,Qb0,Qf1,Qr0];omega
theorem Nw (a b:List bz):Fits (gX a b):=fun x hx=>by
 obtain⟨p,_,hx⟩:=X2.1 hx;exact Nv p b x hx
def iX (a b:List bz):List bz:=canon (gW [] (gX a b))
theorem uO:∀ {l:List bz},Keys l->∀ {p:bz},p ∈ l->tot l p.1=p.2
 | [],_,_,hp=>by cases hp
 | (a,y)::r,h,p,hp=>by
  unfold Keys at h;simp only[Qd2,List.nodup_cons]at h;rcases Qj0.1 hp with h0|hp2
  ·subst h0;have hr:∀ x ∈ r,x.1≠a:=fun x hx he=>h.1 (he ▸ Qg1.2 ⟨x,hx,rfl⟩)
   simp only[tot,if_true,lF hr];grind
  ·have h1:¬ a=p.1:=fun he=>h.1 (he ▸ Qg1.2 ⟨p,hp2,rfl⟩)
   simp only[tot,if_neg h1,uO h.2 hp2];grind
theorem Dt {S:Nat}(hS:1<=S){l:List bz}(h:Keys l)(hb:Bd S l)(e:gp):qz (tot l e)<=S:=by
 cases hg:mE l e with
 | none =>
  rw[lF (Rs hg)];exact Qd1 jZ hS
 | some y =>
  have h1:=Dr hg;have h2:=uO h h1;simp only at h2;rw[h2];exact hb _ h1
theorem Kb {S:Nat}{l:List bz}(hk:Keys l)(hf:Fits l)(hb:∀ e,qz (tot l e)<=S):PV S (canon l):=by
 refine⟨FZ hk,VI l,fun p hp=>hf p (FY.1 hp).1,fun p hp => ?_⟩;have:=uO (jy (FZ hk)) hp;rw[zF]at this;rw[<-this];exact hb _
theorem xN (l:List bz):(canon l).length<=l.length:=by
 unfold canon;rw[List.length_mergeSort];exact Xh2 _ _
theorem gY {S T:Nat}(hS:1<=S)(hT:1<=T){a b:List bz}(ha:PV S a)(hb:PV T b):PV (S+T+1) (gN a b):=by
 refine Kb (xK keys_nil) (xM (fun p hp=>by cases hp) ?_) fun e => ?_
 ·intro p hp;rcases Qw2.1 hp with hp|hp
  ·exact ha.fits p hp
  ·exact hb.fits p hp
 ·have h1:tot (gW [] (a++b)) e=tot a e+tot b e:=by
   rw[xL keys_nil,jJ];simp only[tot];grind
  rw[h1];have h2:=qy (tot a e) (tot b e);have h3:=Dt hS (jy ha.Nt) ha.bd e;have h4:=Dt hT (jy hb.Nt) hb.bd e;omega
theorem Au (a b:List bz):(gN a b).length<=a.length+b.length:=by
 have h1:=xN (gW [] (a++b));have h2:=wE (ms:=a++b) (l:=[]);rw[Qb0]at h2;show(canon (gW [] (a++b))).length<=_;simp only[Qs1]at h2;omega
theorem Av (a b:List bz):(iX a b).length<=a.length*b.length:=by
 have h1:=xN (gW [] (gX a b));have h2:=wE (ms:=gX a b) (l:=[]);have h3:=H9 a b;show(canon (gW [] (gX a b))).length<=_;simp only[Qs1]at h2;omega
theorem Ny {p:bz}{b:List bz}(hb:Keys b):Keys (tu p b):=by
 have h1:Keys (b.map fun q=>(iO p.1 q.1,p.2*q.2)):=by
  unfold Keys at*;rw[Xh0,Xl1]at hb;rw[Q60,Xh0,Xl1];refine hb.imp ?_;intro x y hne he;apply hne;simp only[Function.comp,iO,Qo0]at he;obtain⟨⟨a,b,c⟩,_⟩:=x;obtain⟨⟨a',b',c'⟩,_⟩:=y;simp only at he;simp only[Qo0];omega
 unfold Keys tu at*;exact Xv2 (List.filter_sublist.map _) h1
theorem xO {S T:Nat}(hS:1<=S){b:List bz}(hb:PV T b)(e:gp):∀ {a:List bz},Bd S a->qz (tot (gX a b) e)<=a.length*(S+T+1)+1
 | [],_=>by
  have:=jZ;simp only[gX,List.flatMap_nil,tot,Qs1];omega
 | p::a,ha=>by
  have h1:gX (p::a) b=tu p b++gX a b:=by simp[gX]
  rw[h1,jJ];have h2:=qy (tot (tu p b) e) (tot (gX a b) e);have h3:=xO hS hb e (a:=a) (fun x hx=>ha x (Qg2 _ hx));have h4:Bd (S+T) (tu p b):=by
   intro x hx;obtain⟨hx,_⟩:=Qu0.1 hx;obtain⟨q,hq,rfl⟩:=Qg1.1 hx;have g1:=Cw p.2 q.2;have g2:=hb.bd q hq;have g3:=ha p (Qj2 ..);show qz (p.2*q.2)<=_;omega
  have h5:=Dt ae (Ny (jy hb.Nt)) h4 e;rw[Qf1,Qr0];omega
theorem xP (a b:List bz)(e:gp):tot (iX a b) e=tot (gX a b) e:=by
 unfold iX;rw[zF,xL keys_nil];simp only[tot];grind
theorem iL {S T:Nat}(hS:1<=S){a b:List bz}(ha:PV S a)(hb:PV T b):PV (a.length*(S+T+1)+1) (iX a b):=by
 refine Kb (xK keys_nil) (xM (fun p hp=>by cases hp) (Nw a b)) fun e => ?_
 have h1:tot (gW [] (gX a b)) e=tot (gX a b) e:=by
  rw[xL keys_nil];simp only[tot];grind
 rw[h1];exact xO hS hb e ha.bd
end Fi.S
