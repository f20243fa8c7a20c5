/- Sums and products of polynomials. -/
import Derived.Test.YtonmcbnjifeagaaGreatDoorCH
import Derived.Test.YtonmcbnjifeagaaGreatDoorSEnv
import Derived.Test.YtonmcbnjifeagaaGreatDoorFiG
import Derived.Test.YtonmcbnjifeagaaGreatDoorCF
set_option linter.unusedVariables false
set_option linter.unusedSimpArgs false
noncomputable section
namespace Fi.S
open Go Fi
abbrev d_:Type:=Int × Int × Int
def tot:List aJ->d_->Rat
 | [],_=>0
 | (a,y)::r,e=>(if a=e then y else 0)+tot r e
theorem gI (a b:List aJ)(e:d_):tot (a++b) e=tot a e+tot b e:=by
 induction a with
 | nil=>simp[tot,Rat.zero_add]
 | cons p r ih=>simp only[List.cons_append,tot,ih];grind
theorem O6 {a b:List aJ}(h:a.Perm b)(e:d_):tot a e=tot b e:=by
 induction h with
 | nil=>rfl
 | cons p _ ih=>simp only[tot,ih]
 | swap p q l=>simp only[tot];grind
 | trans _ _ h1 h2=>rw[h1,h2]
theorem gL {l:List aJ}{e:d_}(h:∀ p ∈ l,p.1≠e):tot l e=0:=by
 induction l with
 | nil=>rfl
 | cons p r ih =>
  have h1:=h p (List.mem_cons_self ..);have h2:=ih (fun q hq=>h q (List.mem_cons_of_mem _ hq));simp only[tot,if_neg h1,h2];grind
theorem H7 (l:List aJ)(e:d_):tot (l.filter fun p=>decide (p.2≠0)) e=tot l e:=by
 induction l with
 | nil=>rfl
 | cons p r ih =>
  obtain⟨a,y⟩:=p
  by_cases hy:y=0
  ·subst hy;rw[List.filter_cons_of_neg (by simp)];simp only[tot,ih]
   by_cases h:a=e<;>simp[h,Rat.zero_add]
  ·rw[List.filter_cons_of_pos (by simpa using hy)];simp only[tot,ih]
theorem Bt {l:List aJ}{e:d_}(h:gK l e=none):∀ p ∈ l,p.1≠e:=by
 induction l with
 | nil=>intro p hp;cases hp
 | cons q r ih =>
  intro p hp;unfold gK at h;split at h
  ·cases h
  ·rename_i hne;rcases List.mem_cons.1 hp with rfl|hp
   ·exact fun he=>hne he.symm
   ·exact ih h p hp
theorem tT {l:List aJ}{e:d_}{y:Rat}(h:gK l e=some y):(e,y) ∈ l:=by
 induction l with
 | nil=>cases h
 | cons q r ih =>
  unfold gK at h;split at h
  ·rename_i he;cases h;subst he;exact List.mem_cons_self ..
  ·exact List.mem_cons_of_mem _ (ih h)
theorem O7 {l:List aJ}{e:d_}{y:Rat}{p:aJ}(h:p ∈ qN l e y):p=(e,y)\/p ∈ l:=by
 induction l with
 | nil=>simp only[qN,List.mem_singleton]at h;exact .inl h
 | cons q r ih =>
  unfold qN at h;split at h
  ·rcases List.mem_cons.1 h with rfl|h
   ·exact .inl rfl
   ·exact .inr (List.mem_cons_of_mem _ h)
  ·rcases List.mem_cons.1 h with rfl|h
   ·exact .inr (List.mem_cons_self ..)
   ·rcases ih h with h|h
    ·exact .inl h
    ·exact .inr (List.mem_cons_of_mem _ h)
theorem Bu (l:List aJ)(e:d_)(y:Rat):(qN l e y).map (·.1)=l.map (·.1)\/((∀ p ∈ l,p.1≠e)/\(qN l e y).map (·.1)=l.map (·.1)++[e]):=by
 induction l with
 | nil=>exact .inr ⟨by simp,rfl⟩
 | cons q r ih =>
  obtain⟨a,x⟩:=q;unfold qN
  by_cases h:e=a
  ·subst h;left;simp
  ·rw[if_neg h];rcases ih with ih|⟨h1,ih⟩
   ·left;simp only[List.map_cons,ih]
   ·right
    refine⟨fun p hp => ?_,by simp only[List.map_cons,ih,List.cons_append]⟩;rcases List.mem_cons.1 hp with rfl|hp
    ·exact fun he=>h he.symm
    ·exact h1 p hp
def Keys (l:List aJ):Prop:=(l.map (·.1)).Nodup
theorem O8 {l:List aJ}(h:Keys l)(e:d_)(y:Rat):Keys (qN l e y):=by
 unfold Keys at*;rcases Bu l e y with h1|⟨h1,h2⟩
 ·rw[h1];exact h
 ·rw[h2,List.nodup_append];refine⟨h,by simp,?_⟩;intro a ha b hb;simp only[List.mem_singleton]at hb;subst hb;obtain⟨p,hp,rfl⟩:=List.mem_map.1 ha;exact h1 p hp
theorem Tx {l:List aJ}(h:Keys l)(e:d_)(y:Rat)(e':d_):tot (qN l e y) e'=if e=e' then y else tot l e':=by
 induction l with
 | nil=>simp only[qN,tot];split<;>grind
 | cons q r ih =>
  obtain⟨a,x⟩:=q;unfold Keys at h ih;simp only[List.map_cons,List.nodup_cons]at h;have hr:∀ p ∈ r,p.1≠a:=fun p hp he=>h.1 (he ▸ List.mem_map.2 ⟨p,hp,rfl⟩)
  unfold qN
  by_cases he:e=a
  ·subst he;rw[if_pos rfl];simp only[tot]
   by_cases h2:e=e'
   ·subst h2;simp only[if_pos,gL hr];grind
   ·simp only[if_neg h2]
  ·rw[if_neg he];simp only[tot,ih h.2]
   by_cases h2:e=e'
   ·subst h2;have:¬ a=e:=fun h3=>he h3.symm
    simp only[if_neg this,if_true];grind
   ·simp only[if_neg h2]
theorem O9 {l:List aJ}(h:Keys l)(e:d_):(gK l e).getD 0=tot l e:=by
 induction l with
 | nil=>rfl
 | cons q r ih =>
  obtain⟨a,x⟩:=q;unfold Keys at h ih;simp only[List.map_cons,List.nodup_cons]at h;have hr:∀ p ∈ r,p.1≠a:=fun p hp he=>h.1 (he ▸ List.mem_map.2 ⟨p,hp,rfl⟩)
  unfold gK
  by_cases he:e=a
  ·subst he;simp only[if_true,Option.getD_some,tot,gL hr];grind
  ·have h2:¬ a=e:=fun h3=>he h3.symm
   rw[if_neg he];simp only[tot,if_neg h2,ih h.2];grind
theorem Fb {l:List aJ}(h:Keys l)(e:d_)(c:Rat):Keys (kQ l e c):=O8 h e _
theorem Ty {l:List aJ}(h:Keys l)(e:d_)(c:Rat)(e':d_):tot (kQ l e c) e'=tot l e'+if e=e' then c else 0:=by
 unfold kQ;rw[Tx h,O9 h]
 by_cases h2:e=e'
 ·subst h2;simp
 ·simp only[if_neg h2];grind
theorem dP (e:d_):iZ e e=false:=by
 cases h:iZ e e with
 | false=>rfl
 | true=>rw[jy]at h;omega
theorem kv {a b c:d_}(h1:iZ a b=true)(h2:iZ b c=true):iZ a c=true:=by
 rw[jy]at*;omega
def Vb (l:List aJ):Prop:=l.Pairwise fun a b=>iZ a.1 b.1=true
def Nz (l:List aJ):Prop:=∀ p ∈ l,p.2≠0
theorem dG {l:List aJ}(h:Vb l):Keys l:=by
 unfold Keys;rw[List.nodup_iff_pairwise_ne,List.pairwise_map];refine h.imp ?_;intro a b hab he;rw[he,dP]at hab;cases hab
theorem JN:∀ {l m:List aJ},Vb l->Vb m->Nz l->Nz m->(∀ e,tot l e=tot m e)->l=m
 | [],[],_,_,_,_,_=>rfl
 | [],(b,y)::m,_,hm,_,hn,h=>by
  have h1:=h b;have h2:tot m b=0:=gL fun p hp he=>by
   have:=(List.pairwise_cons.1 hm).1 p hp;rw[he,dP]at this;cases this
  have h3:=hn (b,y) (List.mem_cons_self ..);simp only[tot,if_true,h2]at h1;grind
 | (a,x)::l,[],hl,_,hn,_,h=>by
  have h1:=h a;have h2:tot l a=0:=gL fun p hp he=>by
   have:=(List.pairwise_cons.1 hl).1 p hp;rw[he,dP]at this;cases this
  have h3:=hn (a,x) (List.mem_cons_self ..);simp only[tot,if_true,h2]at h1;grind
 | (a,x)::l,(b,y)::m,hl,hm,hn,hk,h=>by
  have hl':=List.pairwise_cons.1 hl;have hm':=List.pairwise_cons.1 hm;have zl:∀ e,(e=a\/iZ e a=true)->tot l e=0:=fun e he=>gL fun p hp hpe=>by
   have h1:=hl'.1 p hp;simp only at h1;rw[hpe]at h1;rcases he with rfl|he
   ·rw[dP]at h1;cases h1
   ·have:=kv h1 he;rw[dP]at this;cases this
  have zm:∀ e,(e=b\/iZ e b=true)->tot m e=0:=fun e he=>gL fun p hp hpe=>by
   have h1:=hm'.1 p hp;simp only at h1;rw[hpe]at h1;rcases he with rfl|he
   ·rw[dP]at h1;cases h1
   ·have:=kv h1 he;rw[dP]at this;cases this
  have hx:=hn (a,x) (List.mem_cons_self ..);have hy:=hk (b,y) (List.mem_cons_self ..);have hab:a=b:=by
   cases h1:iZ a b with
   | true =>
    have e1:=h a;have hne:¬ b=a:=fun h2=>by rw[h2,dP]at h1;cases h1
    simp only[tot,if_true,if_neg hne,zl a (.inl rfl),zm a (.inr h1)]at e1;grind
   | false =>
    cases h2:iZ b a with
    | true =>
     have e1:=h b;have hne:¬ a=b:=fun h3=>by rw[h3,dP]at h2;cases h2
     simp only[tot,if_true,if_neg hne,zm b (.inl rfl),zl b (.inr h2)]at e1;grind
    | false=>exact jh h1 h2
  subst hab;have hxy:x=y:=by
   have e1:=h a;simp only[tot,if_true,zl a (.inl rfl),zm a (.inl rfl)]at e1;grind
  subst hxy;have:l=m:=JN hl'.2 hm'.2 (fun p hp=>hn p (List.mem_cons_of_mem _ hp)) (fun p hp=>hk p (List.mem_cons_of_mem _ hp)) (fun e=>by
   have e1:=h e;simp only[tot]at e1;grind)
  rw[this]
def canon (l:List aJ):List aJ:=(l.filter fun p=>decide (p.2≠0)).mergeSort fun a b => !iZ b.1 a.1
theorem qm (l:List aJ)(e:d_):tot (canon l) e=tot l e:=by
 unfold canon;rw[O6 (List.mergeSort_perm _ _),H7]
theorem qo {l:List aJ}{p:aJ}:p ∈ canon l↔p ∈ l/\p.2≠0:=by
 unfold canon;rw[(List.mergeSort_perm _ _).mem_iff];simp
theorem Fe (l:List aJ):Nz (canon l):=fun p hp=>(qo.1 hp).2
theorem vg {l:List aJ}(h:Keys l):Vb (canon l):=by
 have h1:((canon l).map (·.1)).Nodup:=by
  have hp:(canon l).Perm (l.filter fun p=>decide (p.2≠0)):=List.mergeSort_perm _ _;refine((hp.map (·.1)).nodup_iff).2 ?_;exact List.Nodup.sublist (List.filter_sublist.map _) h
 have h2:(canon l).Pairwise fun a b=>(!iZ b.1 a.1)=true:=by
  refine List.pairwise_mergeSort (fun a b c hab hbc => ?_) (fun a b => ?_) _
  ·simp only[Bool.not_eq_true',Bool.not_eq_eq_eq_not,Bool.not_true]at*;cases h3:iZ c.1 a.1 with
   | false=>rfl
   | true =>
    cases h4:iZ b.1 c.1 with
    | true=>have:=kv h4 h3;rw[this]at hab;cases hab
    | false =>
     have:=jh h4 hbc;rw[this]at hab;rw[hab]at h3;cases h3
  ·cases h3:iZ b.1 a.1 with
   | false=>rfl
   | true =>
    cases h4:iZ a.1 b.1 with
    | false=>rfl
    | true=>have:=kv h3 h4;rw[dP]at this;cases this
 rw[List.nodup_iff_pairwise_ne,List.pairwise_map]at h1;refine(h1.and h2).imp ?_;rintro a b ⟨hne,hle⟩;simp only[Bool.not_eq_true',Bool.not_eq_eq_eq_not,Bool.not_true]at hle;cases h3:iZ a.1 b.1 with
 | true=>rfl
 | false=>exact absurd (jh h3 hle) hne
def dF (l ms:List aJ):List aJ:=ms.foldl (fun s p=>kQ s p.1 p.2) l
theorem vk (l:List aJ)(p:aJ)(ms:List aJ):dF l (p::ms)=dF (kQ l p.1 p.2) ms:=rfl
theorem o7 (l a b:List aJ):dF l (a++b)=dF (dF l a) b:=by simp[dF,List.foldl_append]
theorem tV:∀ {ms l:List aJ},Keys l->Keys (dF l ms)
 | [],_,h=>h
 | p::ms,l,h=>tV (ms:=ms) (Fb h p.1 p.2)
theorem tX:∀ {ms l:List aJ},Keys l->∀ e,tot (dF l ms) e=tot l e+tot ms e
 | [],l,h,e=>by simp only[dF,List.foldl_nil,tot];grind
 | p::ms,l,h,e=>by
  rw[vk,tX (Fb h p.1 p.2),Ty h];simp only[tot];grind
theorem put_mem {l:List aJ}{e:d_}{c:Rat}{p:aJ}(h:p ∈ kQ l e c):p=(e,(gK l e).getD 0+c)\/p ∈ l:=O7 h
def Fits (l:List aJ):Prop:=∀ p ∈ l,aX p.1=true
def Bd (S:Nat)(l:List aJ):Prop:=∀ p ∈ l,qz p.2<=S
theorem Bd.mono {S T:Nat}{l:List aJ}(h:Bd S l)(hST:S<=T):Bd T l:=fun p hp=>Nat.le_trans (h p hp) hST
theorem O_ {l:List aJ}(h:Fits l){e:d_}(he:aX e=true)(c:Rat):Fits (kQ l e c):=by
 intro p hp;rcases put_mem hp with rfl|hp
 ·exact he
 ·exact h p hp
theorem WI {S:Nat}{l:List aJ}(h:Bd S l)(e:d_){c:Rat}{T:Nat}(hc:qz c<=T):Bd (S+T+1) (kQ l e c):=by
 intro p hp;rcases put_mem hp with rfl|hp
 ·show qz ((gK l e).getD 0+c)<=_;cases hg:gK l e with
  | none =>
   have:(0:Rat)+c=c:=Rat.zero_add c;simp only[Option.getD_none,this];omega
  | some y =>
   have h1:=h _ (tT hg);have h2:=m_ y c;simp only[Option.getD_some]at*;omega
 ·have:=h p hp;omega
theorem H8 (l:List aJ)(e:d_)(c:Rat):(kQ l e c).length<=l.length+1:=by
 have:((kQ l e c).map (·.1)).length<=(l.map (·.1)).length+1:=by
  unfold kQ;rcases Bu l e ((gK l e).getD 0+c) with h|⟨_,h⟩
  ·rw[h];omega
  ·rw[h];simp
 simpa using this
theorem tY:∀ {ms l:List aJ},Fits l->Fits ms->Fits (dF l ms)
 | [],_,h,_=>h
 | p::ms,l,h,hm=>tY (ms:=ms) (O_ h (hm p (List.mem_cons_self ..)) p.2) (fun q hq=>hm q (List.mem_cons_of_mem _ hq))
theorem zh {T:Nat}:∀ {ms l:List aJ} {S:Nat},Bd S l->Bd T ms->Bd (S+ms.length*(T+1)) (dF l ms)
 | [],_,_,h,_=>h.mono (by simp)
 | p::ms,l,S,h,hm=>by
  have:=zh (ms:=ms) (WI h p.1 (hm p (List.mem_cons_self ..))) (fun q hq=>hm q (List.mem_cons_of_mem _ hq));rw[vk];refine this.mono ?_;rw[List.length_cons,Nat.add_mul];omega
theorem rT:∀ {ms l:List aJ},(dF l ms).length<=l.length+ms.length
 | [],_=>by simp[dF]
 | p::ms,l=>by
  have h1:=rT (ms:=ms) (l:=kQ l p.1 p.2);have h2:=H8 l p.1 p.2;rw[vk,List.length_cons];omega
structure PV (S:Nat)(l:List aJ):Prop where
 zi:Vb l
 nz:Nz l
 fits:Fits l
 bd:Bd S l
theorem PV.mono {S T:Nat}{l:List aJ}(h:PV S l)(hST:S<=T):PV T l:=⟨h.zi,h.nz,h.fits,h.bd.mono hST⟩
theorem PV.nil (S:Nat):PV S []:=⟨List.Pairwise.nil,fun _ hp=>(by cases hp),fun _ hp=>(by cases hp),fun _ hp=>(by cases hp)⟩
theorem PV.ext {S T:Nat}{l m:List aJ}(h:PV S l)(k:PV T m)(e:∀ e,tot l e=tot m e):l=m:=JN h.zi k.zi h.nz k.nz e
theorem Ff:∀ (n:Nat) (l:List Nat),l.Nodup->(∀ x ∈ l,x<n)->l.length<=n
 | 0,l,_,h=>by
  cases l with
  | nil=>simp
  | cons x r=>exact absurd (h x (List.mem_cons_self ..)) (by omega)
 | n+1,l,hn,h=>by
  have h1:=Ff n (l.erase n) (hn.erase n) (fun x hx=>by
   have h2:=h x (List.mem_of_mem_erase hx);have h3:x≠n:=fun e=>by subst e;exact(List.Nodup.mem_erase_iff hn).1 hx |>.1 rfl
   omega)
  have h2:=List.length_erase_of_mem (a:=n) (l:=l)
  by_cases hm:n ∈ l
  ·have:=h2 hm;omega
  ·rw[List.erase_of_not_mem hm]at h1;omega
theorem cZ {e:d_}(h:aX e=true):0<=e.1/\e.1<=5/\0<=e.2.1/\e.2.1<=5/\0<=e.2.2/\e.2.2<=5/\e.1+e.2.1+e.2.2<=5:=by
 unfold aX iH at h;simp at h;omega
theorem Pb {e:d_}:aX e=true↔0<=e.1/\0<=e.2.1/\0<=e.2.2/\e.1+e.2.1+e.2.2<=5:=by
 unfold aX iH;simp;omega
theorem Fg {e:d_}(h:aX e=true):ni e<=5:=by
 have h':=cZ h;unfold aX at h;simp only[Bool.and_eq_true]at h;rw[rG h.1.1.1 h.1.1.2 h.1.2];omega
theorem wB {l:List aJ}(hk:Keys l)(hf:Fits l):l.length<=216:=by
 have h1:(l.map fun p=>(36*p.1.1+6*p.1.2.1+p.1.2.2).toNat).Nodup:=by
  unfold Keys at hk;rw[List.nodup_iff_pairwise_ne,List.pairwise_map]at hk ⊢;refine(List.Pairwise.and_mem.1 hk).imp ?_;rintro a b ⟨ha,hb,hne⟩ he;apply hne;have h2:=cZ (hf a ha);have h3:=cZ (hf b hb);have:a.1.1=b.1.1/\a.1.2.1=b.1.2.1/\a.1.2.2=b.1.2.2:=by omega
  obtain⟨⟨x,y,z⟩,q⟩:=a;obtain⟨⟨x',y',z'⟩,q'⟩:=b;simp only at this;obtain⟨rfl,rfl,rfl⟩:=this;rfl
 have h2:=Ff 216 _ h1 (fun x hx=>by
  obtain⟨p,hp,rfl⟩:=List.mem_map.1 hx;have:=cZ (hf p hp);omega)
 simpa using h2
theorem PV.length {S:Nat}{l:List aJ}(h:PV S l):l.length<=216:=wB (dG h.zi) h.fits
theorem Pf {S:Nat}{l:List aJ}(hk:Keys l)(hf:Fits l)(hb:Bd S l):PV S (canon l) :=
 ⟨vg hk,Fe l,fun p hp=>hf p (qo.1 hp).1,fun p hp=>hb p (qo.1 hp).1⟩
def fF (a b:List aJ):List aJ:=canon (dF [] (a++b))
theorem keys_nil:Keys []:=List.nodup_nil
theorem mq (a b:List aJ)(e:d_):tot (fF a b) e=tot a e+tot b e:=by
 unfold fF;rw[qm,tX keys_nil,gI];simp only[tot];grind
end Fi.S
namespace Fi.S
open Go Fi
set_option maxHeartbeats 8000000
def Tz:aD:=f207.body.r.r.l.r.bl.lp
def JO:aD:=f207.body.r.r.r.r.l.r.bl.lp
def Vd:D:=.a [.v (.int .i64 0),.v (.int .i64 0),.v (.int .i64 0),.v (.bool false),.s 1 [],.s 1 []]
def qp (a b:List D):FV:=.d (.s 1 [.s 6 a,.s 6 b])
def o8 (a b:List D)(k acc:Nat)(t:FV):St:=(st0 [qp a b,.u,.d (.v (.int .i64 acc)),.u,.u,.u,qp a b,.d (.v (.int .i64 2)),.d (.v (.int .i64 k)),t,.u,.u,.u,.u,.u] [])
def jF (a b:List D)(k:Nat)(acc:FV)(L:List ae)(t:FV)(dy:Bool:=false):St:={vars:=[.u,.u,.u,.u,acc,.u,.u,.u,.u,.u,.u,qp a b,.d (.v (.int .i64 2)),.d (.v (.int .i64 k)),t],base:=[],loc:=L,aQ:=dy}
theorem w1':af .i64 1=1:=wrap_i64 (by omega)
theorem w2':af .i64 2=2:=wrap_i64 (by omega)
theorem ZC (a b:List D)(h:a.length<=100000000):Ex E0 Tz (o8 a b 0 0 .u) (.norm,o8 a b 1 a.length .u):=by
 have w:af .i64 (a.length:Int)=a.length:=wrap_i64 (by omega);have h0:¬ ((a.length:Int)<0):=by omega
 refine Ex.of (n:=60) ?_;unfold o8 qp;simp -implicitDefEqProofs [Tz,f207,w,h0,w1']
theorem ZE (a b:List D)(h:a.length<=100000000)(h':b.length<=100000000):Ex E0 Tz (o8 a b 1 a.length .u) (.norm,o8 a b 2 (a.length+b.length) .u):=by
 have w:af .i64 ((a.length:Int)+(b.length:Int))=(a.length:Int)+(b.length:Int):=wrap_i64 (by omega);have h0:¬ ((a.length:Int)+(b.length:Int)<0):=by omega
 refine Ex.of (n:=60) ?_;unfold o8 qp;simp only[Int.natCast_add];simp -implicitDefEqProofs [Tz,f207,w,h0,w2']
theorem ZF (a b:List D)(n:Nat):Ex E0 Tz (o8 a b 2 n .u) (.exit 0,o8 a b 2 n (.d (.v (.bool false)))):=by
 refine Ex.of (n:=60) ?_;unfold o8 qp;simp -implicitDefEqProofs [Tz,f207]
theorem TA (a b:List D)(h:a.length<=100000000)(h':b.length<=100000000):Ex E0 (.loop Tz) (o8 a b 0 0 .u) (.exit 0,o8 a b 2 (a.length+b.length) (.d (.v (.bool false)))) :=
 (ZC a b h).next ((ZE a b h h').next ((ZF a b _).leave (by simp)))
theorem Ve (a b:List D)(acc:FV)(L:List ae)(dy:Bool):Ex E0 JO (jF a b 2 acc L .u dy) (.exit 2,jF a b 2 acc L (.d (.v (.bool false))) dy):=by
 refine Ex.of (n:=60) ?_;unfold jF qp;simp -implicitDefEqProofs [JO,f207]
theorem JP (a b:List D)(k:Nat)(hk:k<2)(ha:a=[])(hb:b=[]):Ex E0 JO (jF a b k (.d (.n 6)) [] .u) (.norm,jF a b (k+1) (.d (.n 6)) [] .u):=by
 subst ha hb;refine Ex.of (n:=60) ?_;unfold jF qp
 match k,hk with
 | 0,_=>simp -implicitDefEqProofs [JO,f207,w1',most]
 | 1,_=>simp -implicitDefEqProofs [JO,f207,w2',most]
theorem ZG (a b R:List D)(h:a.length<=100000000):Ex E0 JO (jF a b 0 (.ls (.old 0) 0 6 0 0) [.row 0 6 R] .u) (.norm,jF a b 1 (.ls (.old 0) 1 6 0 a.length) [.row 1 6 a] .u true):=by
 have h1:a.length*80<=most:=by unfold most;omega
 have h2:a.length<=most:=by unfold most;omega
 refine Ex.of (n:=60) ?_;unfold jF qp;simp -implicitDefEqProofs [JO,f207,w1',h1,h2]
theorem ZH (a b:List D)(h:a.length<=100000000)(h':b.length<=100000000):Ex E0 JO (jF a b 1 (.ls (.old 0) 1 6 0 a.length) [.row 1 6 a] .u true) (.norm,jF a b 2 (.ls (.old 0) 2 6 0 (a.length+b.length)) [.row 2 6 (a++b)] .u true):=by
 have h1:(a.length+b.length)*80<=most:=by unfold most;omega
 have h2:a.length+b.length<=most:=by unfold most;omega
 refine Ex.of (n:=60) ?_;unfold jF qp;simp -implicitDefEqProofs [JO,f207,w2',h1,h2]
theorem Pg (n m:Nat)(h0:0<n)(h:n<=200000000):CL E0 (m+100) 258 [.d (.n 6),.d (.v (.int .i64 n))] []=some (.ls (.old 0) 0 6 0 0,some [.row 0 6 (List.replicate n Vd)]):=by
 have w0:af .i64 0=0:=wrap_i64 (by omega);have wn:af .i64 (n:Int)=n:=wrap_i64 (by omega);have g0:¬ ((n:Int)<0):=by omega
 have g1:(0:Int)<n:=by omega
 have h1:(n:Int)*80<=most:=by unfold most;omega
 have h2:(n:Int)<=most:=by unfold most;omega
 rw[ah rfl (k258:E0.fn _=_) rfl];simp -implicitDefEqProofs [f258,FV.ag,ae.ag,lh,Jl,w0,wn,g0,g1,h1,h2,Vd,h0]
theorem Lj (a b:List D)(ha:a.length<=100000000)(hb:b.length<=100000000):∃ o,Ca E0 207 [qp a b] (.d (.s 6 (a++b)),o)/\(o=none\/∃ x,o=some [x]):=by
 have w0:af .i64 0=0:=wrap_i64 (by omega);have hA:Ex E0 f207.body.l (st0 [qp a b,.u,.u,.u,.u,.u,.u,.u,.u,.u,.u,.u,.u,.u,.u] []) (.norm,(st0 [qp a b,.u,.u,.u,.u,.u,.u,.u,.u,.u,.u,.u,.u,.u,.u] [])):=by
  refine Ex.of (n:=60) ?_;unfold qp;simp -implicitDefEqProofs [f207]
 have hB:Ex E0 f207.body.r.l (st0 [qp a b,.u,.u,.u,.u,.u,.u,.u,.u,.u,.u,.u,.u,.u,.u] []) (.norm,(st0 [qp a b,.u,.d (.v (.int .i64 0)),.u,.u,.u,.u,.u,.u,.u,.u,.u,.u,.u,.u] [])):=by
  refine Ex.of (n:=60) ?_;unfold qp;simp -implicitDefEqProofs [f207]
 have hC:Ex E0 f207.body.r.r.l.l (st0 [qp a b,.u,.d (.v (.int .i64 0)),.u,.u,.u,.u,.u,.u,.u,.u,.u,.u,.u,.u] []) (.norm,o8 a b 0 0 .u):=by
  refine Ex.of (n:=60) ?_;unfold qp o8 qp;simp -implicitDefEqProofs [f207]
 have hL:=TA a b ha hb;have hN:∃ acc L,Ex E0 (.loop JO) (jF a b 0 acc L .u) (.exit 2,jF a b 2 acc L .u)\/True:=⟨.u,[],.inr trivial⟩
 clear hN
 by_cases hn:a.length+b.length=0
 ·obtain rfl:a=[]:=List.eq_nil_of_length_eq_zero (by omega);obtain rfl:b=[]:=List.eq_nil_of_length_eq_zero (by omega);have hD:Ex E0 f207.body.r.r.r.l (o8 [] [] 2 (0+0) (.d (.v (.bool false)))) (.norm,(st0 [qp [] [],.u,.u,.u,.d (.n 6),.u,.u,.u,.u,.u,.u,.u,.u,.u,.u] [])):=by
   have t:∀ m,CL E0 (m+100) 258 [.d (.n 6),.d (.v (.int .i64 0))] []=some (.d (.n 6),none):=by
    intro m;rw[ah rfl (k258:E0.fn _=_) rfl];simp -implicitDefEqProofs [f258,w0]
   refine Ex.of (n:=200) ?_;unfold o8 qp;simp -implicitDefEqProofs [f207,t,FV.aK,FV.ag,ae.ag]
  have hE:Ex E0 f207.body.r.r.r.r.l.l (st0 [qp [] [],.u,.u,.u,.d (.n 6),.u,.u,.u,.u,.u,.u,.u,.u,.u,.u] []) (.norm,jF [] [] 0 (.d (.n 6)) [] .u):=by
   refine Ex.of (n:=60) ?_;unfold qp jF qp;simp -implicitDefEqProofs [f207]
  have hF:Ex E0 f207.body.r.r.r.r.r (jF [] [] 2 (.d (.n 6)) [] (.d (.v (.bool false)))) (.ret,(st0 [.u,.d (.n 6),.u,.u,.u,.u,.u,.u,.u,.u,.u,.u,.u,.u,.u] [])):=by
   refine Ex.of (n:=60) ?_;unfold jF qp;simp -implicitDefEqProofs [f207]
  have hM:Ex E0 (.loop JO) (jF [] [] 0 (.d (.n 6)) [] .u) (.exit 2,jF [] [] 2 (.d (.n 6)) [] (.d (.v (.bool false)))) :=
   (JP [] [] 0 (by omega) rfl rfl).next ((JP [] [] 1 (by omega) rfl rfl).next ((Ve [] [] _ _ _).leave (by simp)))
  refine⟨none,Ca.body (o:=.ret) rfl (k207:E0.fn _=_) rfl ?_ (by intro id h;cases h) (st1:=(st0 [.u,.d (.n 6),.u,.u,.u,.u,.u,.u,.u,.u,.u,.u,.u,.u,.u] [])) ?_,.inl rfl⟩
  ·show Ex E0 (.seq f207.body.l (.seq f207.body.r.l (.seq (.seq f207.body.r.r.l.l (.block 0 (.loop Tz))) (.seq f207.body.r.r.r.l (.seq (.seq f207.body.r.r.r.r.l.l (.block 2 (.loop JO))) f207.body.r.r.r.r.r))))) _ _;exact hA.seq (hB.seq ((hC.seq hL.block).seq (hD.seq ((hE.seq hM.block).seq hF))))
  ·simp -implicitDefEqProofs [f207]
 ·have hD:Ex E0 f207.body.r.r.r.l (o8 a b 2 (a.length+b.length) (.d (.v (.bool false)))) (.norm,(st0 [qp a b,.u,.u,.u,.ls (.old 0) 0 6 0 0,.u,.u,.u,.u,.u,.u,.u,.u,.u,.u] [.row 0 6 (List.replicate (a.length+b.length) Vd)])):=by
   have t:=fun m=>Pg (a.length+b.length) m (by omega) (by omega)
   refine Ex.of (n:=200) ?_;unfold o8 qp;generalize a.length+b.length=n at*;generalize List.replicate n Vd=R at*;simp -implicitDefEqProofs [f207,t,FV.aK,FV.ag,ae.ag]
  have hE:Ex E0 f207.body.r.r.r.r.l.l (st0 [qp a b,.u,.u,.u,.ls (.old 0) 0 6 0 0,.u,.u,.u,.u,.u,.u,.u,.u,.u,.u] [.row 0 6 (List.replicate (a.length+b.length) Vd)]) (.norm,jF a b 0 (.ls (.old 0) 0 6 0 0) [.row 0 6 (List.replicate (a.length+b.length) Vd)] .u):=by
   refine Ex.of (n:=60) ?_;unfold qp jF qp;generalize List.replicate (a.length+b.length) Vd=R at*;simp -implicitDefEqProofs [f207]
  have hF:Ex E0 f207.body.r.r.r.r.r (jF a b 2 (.ls (.old 0) 2 6 0 (a.length+b.length)) [.row 2 6 (a++b)] (.d (.v (.bool false))) true) (.ret,{vars:=[.u,.ls (.old 0) 2 6 0 (a.length+b.length),.u,.u,.u,.u,.u,.u,.u,.u,.u,.u,.u,.u,.u],base:=[],loc:=[.row 2 6 (a++b)],aQ:=true}):=by
   refine Ex.of (n:=60) ?_;unfold jF qp;simp -implicitDefEqProofs [f207]
  have hM:Ex E0 (.loop JO) (jF a b 0 (.ls (.old 0) 0 6 0 0) [.row 0 6 (List.replicate (a.length+b.length) Vd)] .u) (.exit 2,jF a b 2 (.ls (.old 0) 2 6 0 (a.length+b.length)) [.row 2 6 (a++b)] (.d (.v (.bool false))) true) :=
   (ZG a b _ ha).next ((ZH a b ha hb).next ((Ve a b _ _ _).leave (by simp)))
  refine⟨some [.fO 2 6 (a++b)],Ca.body (o:=.ret) rfl (k207:E0.fn _=_) rfl ?_ (by intro id h;cases h) (st1:={vars:=[.u,.ls (.old 0) 2 6 0 (a.length+b.length),.u,.u,.u,.u,.u,.u,.u,.u,.u,.u,.u,.u,.u],base:=[],loc:=[.row 2 6 (a++b)],aQ:=true}) ?_,.inr ⟨_,rfl⟩⟩
  ·show Ex E0 (.seq f207.body.l (.seq f207.body.r.l (.seq (.seq f207.body.r.r.l.l (.block 0 (.loop Tz))) (.seq f207.body.r.r.r.l (.seq (.seq f207.body.r.r.r.r.l.l (.block 2 (.loop JO))) f207.body.r.r.r.r.r))))) _ _;exact hA.seq (hB.seq ((hC.seq hL.block).seq (hD.seq ((hE.seq hM.block).seq hF))))
  ·have e1:ae.view 2 6 0 (a.length+b.length) (.row 2 6 (a++b))=some (a++b):=by
    have:List.take (a.length+b.length) (a++b)=a++b:=by rw[<-List.length_append,List.take_length]
    simp[ae.view,this]
   clear hA hB hC hL hD hE hF hM hn;simp -implicitDefEqProofs [f207,e1,FV.ag,ae.ag]
def au (l:List aJ):D:=.s 6 (l.map fun p=>qC p.1 p.2)
def o9 (p:aJ):Mo:=⟨p.1,qs p.2,qn p.2,qd p.2⟩
theorem Dh (l:List aJ):au l=PD (l.map o9):=by
 unfold au PD;rw[List.map_map];rfl
theorem Fh {l:List aJ}:oU l=au (canon l):=by
 unfold oU au canon;have h1:l.flatMap dW=(l.filter fun p=>decide (p.2≠0)).map fun p=>qC p.1 p.2:=by
  induction l with
  | nil=>rfl
  | cons p r ih =>
   by_cases hp:p.2=0
   ·rw[List.filter_cons_of_neg (by simpa using hp)];simp[List.flatMap_cons,dW,hp,ih]
   ·rw[List.filter_cons_of_pos (by simpa using hp)];simp[List.flatMap_cons,dW,hp,ih]
 rw[h1,<-List.map_mergeSort (r:=fun a b => !iZ b.1 a.1)];intro a _ b _;rfl
theorem JQ {S:Nat}{l:List aJ}(h:Bd S l){e:d_}{y:Rat}(hy:gK l e=some y):qz y<=S:=h _ (tT hy)
def Yq:aD:=f155.body.r.r.l.r.bl.lp
def Ll (es:List D)(k:Nat)(L:List ae)(t:FV):St:=(st0 [.u,.u,.u,.m (.loc 0),.u,.d (.s 6 es),.d (.v (.int .i64 es.length)),.d (.v (.int .i64 k)),t] L)
theorem Ph (es:List D)(k:Nat)(L:List ae)(l:List aJ)(p:aJ)(hn:es.length<=100000000)(hk:es[k]?=some (qC p.1 p.2))(hL:L[0]?=some (.map (l.map cz)))(hp:qz p.2<=5000000)(hl:Bd 5000000 l)(hf:aX p.1=true) :
  ∃ L',Ex E1 Yq (Ll es k L .u) (.norm,Ll es (k+1) L' .u)/\L'[0]?=some (.map ((kQ l p.1 p.2).map cz)):=by
 obtain⟨e,x⟩:=p;have hkl:k<es.length:=(bE hk)
 have hB:(List.map (ae.ag 0) (L++[ae.box [.d (.v (.int .i64 e.1)),.d (.v (.int .i64 e.2.1)),.d (.v (.int .i64 e.2.2)),.d (.v (.bool (qs x))),.d (LD (qn x)),.d (LD (qd x))]]))[0]?=some (.map (l.map cz)):=by
  cases L with
  | nil=>cases hL
  | cons o r=>simp only[List.getElem?_cons_zero,Option.some.injEq]at hL;subst hL;rfl
 obtain⟨N,B',t,hlen,hB'⟩:=E_ _ 0 l hB e x hp (fun y hy=>JQ hl hy) (Fg hf);refine⟨B',Ex.of (n:=N+200) ?_,hB'⟩;have bg:af .i64 ((k:Int)+1)=(k:Int)+1:=wrap_i64 (by omega);have hk1:((k+1:Nat):Int)=(k:Int)+1:=by omega
 have hk0:(0:Int)<=(k:Int):=by omega
 have hkc:(k:Int)<(es.length:Int):=by omega
 clear hB hB' hlen hp hl hf;obtain⟨a,b,c⟩:=e;unfold Ll;rw[hk1];simp only[qC,wX,iG,qD,raw]at*;generalize qs x=s at*;simp only[LD]at*;generalize LL (qn x)=ns,LL (qd x)=ds at*;have i1:=idx hk;simp only[List.map_append,List.map_cons,List.map_nil,ae.ag,FV.aK,FV.ag]at t;simp -implicitDefEqProofs [Yq,f155,bg,hk0,hkc,hk,i1,t,FV.ag,FV.aK,ae.ag]
theorem Pk {ms:List aJ}{k:Nat}{p:aJ}(h:ms[k]?=some p):dF [] (ms.take (k+1))=kQ (dF [] (ms.take k)) p.1 p.2:=by
 rw[List.take_add_one,h];show dF [] (ms.take k++[p])=_;rw[o7];rfl
theorem TB (ms:List aJ)(L:List ae)(S:Nat)(hn:ms.length<=100000000)(hL:L[0]?=some (.map []))(hf:Fits ms)(hb:Bd S ms)(hS:S<=5000000)(hm:ms.length*(S+1)<=5000000) :
  ∃ L',Ex E1 (.loop Yq) (Ll (ms.map fun p=>qC p.1 p.2) 0 L .u) (.exit 0,Ll (ms.map fun p=>qC p.1 p.2) ms.length L' (.d (.v (.bool false))))/\L'[0]?=some (.map ((dF [] ms).map cz)):=by
 have hlen:(ms.map fun p=>qC p.1 p.2).length=ms.length:=by simp
 obtain⟨r,h1,L',h2,h3⟩:=Ex.inv (E:=E1) (b:=Yq) (α:=Nat × List ae) (S:=fun a=>Ll (ms.map fun p=>qC p.1 p.2) a.1 a.2 .u) (fun a=>ms.length-a.1)
  (fun a=>a.1<=ms.length/\a.2[0]?=some (.map ((dF [] (ms.take a.1)).map cz))) (fun r=>∃ L',r=(.exit 0,Ll (ms.map fun p=>qC p.1 p.2) ms.length L' (.d (.v (.bool false))))/\L'[0]?=some (.map ((dF [] ms).map cz))) (by
   rintro⟨k,L⟩ ⟨q1,q2⟩;simp only at q1 q2
   by_cases hk:k<ms.length
   ·have hp:ms[k]?=some ms[k]:=List.getElem?_eq_getElem hk;have hpm:ms[k] ∈ ms:=List.getElem_mem hk;have hp2:(ms.map fun p=>qC p.1 p.2)[k]?=some (qC ms[k].1 ms[k].2):=by rw[List.getElem?_map,hp];rfl
    have hbd:Bd 5000000 (dF [] (ms.take k)):=by
     refine(zh (S:=0) (T:=S) (fun p hp=>by cases hp) (fun p hp=>hb p (List.mem_of_mem_take hp))).mono ?_;rw[List.length_take,Nat.zero_add];exact Nat.le_trans (Nat.mul_le_mul_right _ (Nat.min_le_right _ _)) hm
    obtain⟨L',g1,g2⟩:=Ph _ k L _ ms[k] (by rw[hlen];exact hn) hp2 q2 (Nat.le_trans (hb _ hpm) hS) hbd (hf _ hpm);refine .inl ⟨(k+1,L'),g1,by show ms.length-(k+1)<ms.length-k;omega,by show k+1<=_;omega,?_⟩;show L'[0]?=some (.map ((dF [] (ms.take (k+1))).map cz));rw[Pk hp];exact g2
   ·obtain rfl:k=ms.length:=by omega
    rw[List.take_length]at q2;refine .inr ⟨_,Ex.of (n:=60) ?_,?_,L,rfl,q2⟩
    ·simp only[Ll,hlen];generalize (ms.map fun p=>qC p.1 p.2)=es,ms.length=n at*;simp -implicitDefEqProofs [Yq,f155]
    ·simp) (0,L) ⟨Nat.zero_le _,hL⟩
 subst h2;exact⟨L',h1,h3⟩
theorem xD {S:Nat}:∀ {l:List aJ} {q:Option Mo},PV S l->(∀ m,q=some m->∀ p ∈ l,iZ m.e p.1=true)->sJ q (l.map o9)=true
 | [],_,_,_=>by simp[sJ]
 | p::l,q,h,hq=>by
  have hs:=List.pairwise_cons.1 h.zi;have hfit:(o9 p).fits=true:=by
   unfold Mo.fits o9;have h1:=h.fits p (List.mem_cons_self ..);have h2:qn p.2≠[]:=by
    have h3:=h.nz p (List.mem_cons_self ..);intro h4;have h5:p.2.num.natAbs=0:=by
     have:=aN (p.2.num.natAbs);unfold qn at h4;rw[h4]at this;simpa[val] using this.symm
    exact h3 (Rat.num_eq_zero.1 (Int.natAbs_eq_zero.1 h5))
   simp[h1,h2,qf]
  have hr:sJ (some (o9 p)) (l.map o9)=true:=xD (S:=S) ⟨hs.2,fun x hx=>h.nz x (List.mem_cons_of_mem _ hx),fun x hx=>h.fits x (List.mem_cons_of_mem _ hx),fun x hx=>h.bd x (List.mem_cons_of_mem _ hx)⟩ (fun m hm x hx=>by cases hm;exact hs.1 x hx);cases q with
  | none=>simp only[List.map_cons,sJ,hfit,hr,Bool.and_self]
  | some m =>
   have h6:gT m.e (o9 p).e<0:=of_decide_eq_true (hq m rfl p (List.mem_cons_self ..));simp only[List.map_cons,sJ,hfit,hr,decide_eq_true h6,Bool.and_self]
theorem Pm {S:Nat}{l:List aJ}(h:PV S l)(hS:S<=100000):Po (l.map o9):=by
 refine⟨fun m hm => ?_,by have:=h.length;simp;omega⟩;obtain⟨p,hp,rfl⟩:=List.mem_map.1 hm;have hb:=h.bd p hp;have h1:(qn p.2).length<=qz p.2:=Nat.le_max_left _ _;have h2:(qd p.2).length<=qz p.2:=by
  unfold qd;split
  ·simp
  ·exact Nat.le_max_right _ _
 exact⟨Cv _,Cw _,Nat.le_trans h1 (Nat.le_trans hb hS),Nat.le_trans h2 (Nat.le_trans hb hS)⟩
theorem mr {S:Nat}{l:List aJ}(h:PV S l)(hS:S<=100000):Ca E1 208 [.d (au l)] (.d (au l),none):=by
 have h1:=Bg _ (Pm h hS);rw[xD h (fun m hm=>by cases hm),<-Dh]at h1;obtain⟨N,t⟩:=(Ca.dO h1).get;refine Ca.a_ (n:=N+60) ?_;rw[ah rfl (k208:E1.fn _=_) rfl];unfold au at*;generalize (l.map fun p=>qC p.1 p.2)=es at*;simp -implicitDefEqProofs [f208,t]
theorem H9 {S:Nat}{ms:List aJ}(hf:Fits ms)(hb:Bd S ms)(hm:ms.length*(S+1)<=5000000):rR (dF [] ms)=true:=by
 have hk:Keys (dF [] ms):=tV keys_nil;have hF:Fits (dF [] ms):=tY (fun p hp=>by cases hp) hf;have hB:Bd (0+ms.length*(S+1)) (dF [] ms):=zh (fun p hp=>by cases hp) hb;have hl:=wB hk hF;unfold rR;simp only[Bool.and_eq_true,decide_eq_true_eq,List.all_eq_true];exact⟨⟨hk,fun p hp=>by have:=hB p hp;omega⟩,by omega⟩
theorem Bv {S:Nat}{L:List ae}{ms:List aJ}(hL:L[0]?=some (.map ((dF [] ms).map cz)))(hf:Fits ms)(hb:Bd S ms)(hm:ms.length*(S+1)<=5000000)(m:Nat) :
  CL E1 m 206 [.m (.old 0)] (List.map (ae.ag 0) L)=some (.d (au (canon (dF [] ms))),none):=by
 have hB:(List.map (ae.ag 0) L)[0]?=some (.map ((dF [] ms).map cz)):=by rw[List.getElem?_map,hL];rfl
 rw[Br m 0 _ _ hB (H9 hf hb hm),Fh]
theorem Di {S:Nat}{a b:List aJ}(ha:PV S a)(hb:PV S b)(hS:S<=100000)(hm:(a++b).length*(S+1)<=5000000):Ca E1 155 [.d (au a),.d (au b)] (.d (au (fF a b)),none):=by
 have hf:Fits (a++b):=fun p hp=>by
  rcases List.mem_append.1 hp with hp|hp
  ·exact ha.fits p hp
  ·exact hb.fits p hp
 have hB:Bd S (a++b):=fun p hp=>by
  rcases List.mem_append.1 hp with hp|hp
  ·exact ha.bd p hp
  ·exact hb.bd p hp
 have la:=ha.length;have lb:=hb.length;have hlen:(a++b).length<=100000000:=by rw[List.length_append];omega
 obtain⟨N1,t1⟩:=(mr ha hS).any;obtain⟨N2,t2⟩:=(mr hb hS).any;obtain⟨o,hc,ho⟩:=Lj (a.map fun p=>qC p.1 p.2) (b.map fun p=>qC p.1 p.2) (by simp;omega) (by simp;omega);obtain⟨N3,t3⟩:=(Ca.dO hc).any;obtain⟨M,hM⟩:∃ M,M=N1+N2+N3:=⟨_,rfl⟩
 replace t1:=t1 M (by omega);replace t2:=t2 M (by omega);replace t3:=t3 M (by omega);have e1:(a.map fun p=>qC p.1 p.2)++(b.map fun p=>qC p.1 p.2)=(a++b).map fun p=>qC p.1 p.2:=by simp
 rw[e1]at t3;have hAB:Ex E1 f155.body.l (st0 [.d (au a),.d (au b),.u,.u,.u,.u,.u,.u,.u] []) (.norm,(st0 [.d (au a),.d (au b),.u,.u,.u,.u,.u,.u,.u] [])):=by
  refine Ex.of (n:=60) ?_;generalize au a=x1;generalize au b=x2;simp -implicitDefEqProofs [f155]
 have hMk:Ex E1 f155.body.r.l (st0 [.d (au a),.d (au b),.u,.u,.u,.u,.u,.u,.u] []) (.norm,(st0 [.d (au a),.d (au b),.u,.m (.loc 0),.u,.u,.u,.u,.u] [.map []])):=by
  refine Ex.of (n:=60) ?_;generalize au a=x1;generalize au b=x2;simp -implicitDefEqProofs [f155]
 have hC:∃ L,L[0]?=some (.map [])/\Ex E1 f155.body.r.r.l.l (st0 [.d (au a),.d (au b),.u,.m (.loc 0),.u,.u,.u,.u,.u] [.map []]) (.norm,Ll ((a++b).map fun p=>qC p.1 p.2) 0 L .u):=by
  rcases ho with rfl|⟨x,rfl⟩
  ·refine⟨[.map []],rfl,Ex.of (n:=M+100) ?_⟩;unfold au Ll qp at*;generalize ((a++b).map fun p=>qC p.1 p.2)=es,(a.map fun p=>qC p.1 p.2)=es1,(b.map fun p=>qC p.1 p.2)=es2 at*;simp -implicitDefEqProofs [f155,t1,t2,t3]
  ·refine⟨[.map [],ae.shift 1 x],rfl,Ex.of (n:=M+100) ?_⟩;unfold au Ll qp at*;generalize ((a++b).map fun p=>qC p.1 p.2)=es,(a.map fun p=>qC p.1 p.2)=es1,(b.map fun p=>qC p.1 p.2)=es2 at*;simp -implicitDefEqProofs [f155,t1,t2,t3]
 obtain⟨L,hL,hC⟩:=hC;obtain⟨L',hl,hL'⟩:=TB (a++b) L S hlen hL hf hB (by omega) hm;have t4:=fun m=>Bv hL' hf hB hm m
 have Gu:au (canon (dF [] (a++b)))=au (fF a b):=rfl;rw[Gu]at t4;have hD:Ex E1 f155.body.r.r.r (Ll ((a++b).map fun p=>qC p.1 p.2) (a++b).length L' (.d (.v (.bool false)))) (.ret,(st0 [.u,.u,.d (au (fF a b)),.u,.u,.u,.u,.u,.u] (L'))):=by
  refine Ex.of (n:=100) ?_;unfold au Ll at*;generalize ((a++b).map fun p=>qC p.1 p.2)=es,((fF a b).map fun p=>qC p.1 p.2)=es1 at*;simp -implicitDefEqProofs [f155,t4,FV.ag,FV.aK]
 refine Ca.body (o:=.ret) (st1:=(st0 [.u,.u,.d (au (fF a b)),.u,.u,.u,.u,.u,.u] (L'))) rfl (k155:E1.fn _=_) rfl ?_ (by intro id h;cases h) ?_
 ·show Ex E1 (.seq f155.body.l (.seq f155.body.r.l (.seq (.seq f155.body.r.r.l.l (.block 0 (.loop Yq))) f155.body.r.r.r))) _ _;exact hAB.seq (hMk.seq ((hC.seq hl.block).seq hD))
 ·unfold au;generalize ((fF a b).map fun p=>qC p.1 p.2)=es1 at*;simp -implicitDefEqProofs [f155]
theorem Lm (B:List ae)(i:Nat)(l:List aJ)(hB:B[i]?=some (.map (l.map cz)))(e:Int × Int × Int)(c:Rat)(hc:qz c<=5000000)(hl:∀ y,gK l e=some y->qz y<=5000000)(hd:ni e<=5) :
  ∃ N B',(∀ k,CL E1 (N+k) 205 [.m (.old i),.d (iG e),.d (qD c)] B=some (.d (.t []),some B'))/\B.length<=B'.length/\B'[i]?=some (.map ((kQ l e c).map cz))/\∀ j,j≠i->j<B.length->B'[j]?=(B[j]?).map (ae.ag B.length):=by
 have hz:qz 0<=5000000:=Nat.le_trans fE (by omega);have hold:qz ((gK l e).getD 0)<=5000000:=by
  cases h:gK l e with
  | none=>exact hz
  | some y=>exact hl y h
 obtain⟨N,t⟩:=(Ca.dO (sQ ((gK l e).getD 0) c (by omega) (by omega))).get;have t2:=fun m=>oZ m e
 have hil:i<B.length:=(bE hB)
 have Dc:∀ L,(B++L)[i]?=some (.map (l.map cz)):=fun L=>by rw[List.getElem?_append_left hil];exact hB
 have hf:=ve e l;have hs:=zg e ((gK l e).getD 0+c) l;have hk:=E8 e;have hput:qN l e ((gK l e).getD 0+c)=kQ l e c:=rfl;rw[hput]at hs;generalize (kQ l e c).map cz=es',(gK l e).getD 0+c=sm,l.map cz=es,ni e=dg at*;refine⟨N+200,((B.set i (ae.map es'))++[ae.box [.d (.v (.int .i64 e.1)),.d (.v (.int .i64 e.2.1)),.d (.v (.int .i64 e.2.2))],ae.box [.d (.v (.bool (qs c))),.d (LD (qn c)),.d (LD (qd c))]]).map (ae.ag B.length),fun k => ?_,by simp,by rw[List.getElem?_map,List.getElem?_append_left (by simpa using hil),List.getElem?_set_self hil];rfl,fun j hj hjl=>by rw[List.getElem?_map,List.getElem?_append_left (by simpa using hjl),List.getElem?_set_ne (fun h=>hj h.symm)]⟩;replace t:=fun j=>t (k+j)
 simp only[<-Nat.add_assoc]at t;rw[show N+200+k=N+k+200 by omega];generalize N+k=M at*;rw[ah rfl (k205:E1.fn _=_) rfl];obtain⟨x,y,z⟩:=e;cases hg:gK l (x,y,z) with
 | none =>
  rw[hg]at hf t;simp only[Option.map_none,Option.getD_none,iM]at hf t;simp only[iG,qD,raw]at*;generalize qs c=s,qs sm=s' at*;simp only[LD]at*;generalize LL (qn c)=ns,LL (qd c)=ds,LL (qn sm)=ns',LL (qd sm)=ds' at*;simp -implicitDefEqProofs [f205,t,t2,hd,jb,Dc,hf,hs,hk,hil,FV.ag]
 | some u =>
  rw[hg]at hf t;simp only[Option.map_some,Option.getD_some]at hf t;simp only[iG,qD,raw]at*;generalize qs c=s,qs sm=s',qs u=s'' at*;simp only[LD]at*;generalize LL (qn c)=ns,LL (qd c)=ds,LL (qn sm)=ns',LL (qd sm)=ds',LL (qn u)=Li,LL (qd u)=ds'' at*;simp -implicitDefEqProofs [f205,t,t2,hd,jb,Dc,hf,hs,hk,hil,FV.ag]
def wC:aD:=f157.body.r.r.l.r.bl.lp
def o_:aD:=wC.r.r.l.bl
def Bw:aD:=o_.r.r.bl.lp
def tZ:aD:=Bw.r.r.l.bl
def pmE:aD:=tZ.r.r.l.r.bl.lp
def Ea (e:d_):ae:=.box [.d (.v (.int .i64 e.1)),.d (.v (.int .i64 e.2.1)),.d (.v (.int .i64 e.2.2))]
def eu (p:aJ):ae:=.box [.d (.v (.int .i64 p.1.1)),.d (.v (.int .i64 p.1.2.1)),.d (.v (.int .i64 p.1.2.2)),.d (.v (.bool (qs p.2))),.d (LD (qn p.2)),.d (LD (qd p.2))]
def gM (xa xb:List D)(v4 v5 v6:FV)(i j:Nat)(v12 v13 v14 v16 t:FV)(L:List ae):St :=
 (st0 [.u,.d (.s 6 xb),.u,.m (.loc 0),v4,v5,v6,.u,.d (.s 6 xa),.d (.v (.int .i64 xa.length)),.d (.v (.int .i64 i)),.u,v12,v13,v14,.u,v16,t] L)
theorem TC (xa xb:List D)(v4 v12 v13 v14:FV)(i i5 i6:Nat)(L:List ae)(e:d_)(q:aJ)(h56:i5≠i6)(h5:L[i5]?=some (eu q))(h6:L[i6]?=some (Ea e))(he:aX e=true)(hq:aX q.1=true) :
  Ex E1 tZ.r.r.l (gM xa xb v4 (.r (.loc i5) 0) (.r (.loc i6) 0) i 0 v12 v13 v14 .u .u L)
   (.norm,gM xa xb v4 (.r (.loc i5) 0) (.r (.loc i6) 0) i 0 v12 v13 v14 (.d (.v (.int .i64 3))) (.d (.v (.bool false))) (L.set i6 (Ea (e.1+q.1.1,e.2.1+q.1.2.1,e.2.2+q.1.2.2)))):=by
 have h1:=cZ he;have h2:=cZ hq;obtain⟨a,b,c⟩:=e;obtain⟨⟨a',b',c'⟩,x⟩:=q;simp only at h1 h2;have w1:af .i64 (a+a')=a+a':=wrap_i64 (by omega);have w2:af .i64 (b+b')=b+b':=wrap_i64 (by omega);have w3:af .i64 (c+c')=c+c':=wrap_i64 (by omega);have u1:af .i64 1=1:=wrap_i64 (by omega);have u2:af .i64 2=2:=wrap_i64 (by omega);have u3:af .i64 3=3:=wrap_i64 (by omega);have hl:i6<L.length:=(bE h6)
 have g5:∀ o,(L.set i6 o)[i5]?=some (eu ((a',b',c'),x)):=fun o=>by rw[List.getElem?_set_ne (fun h=>h56 h.symm)];exact h5
 have g6:∀ o,(L.set i6 o)[i6]?=some o:=fun o=>List.getElem?_set_self hl
 have gs:∀ o o',(L.set i6 o).set i6 o'=L.set i6 o':=fun o o'=>List.set_set ..
 refine Ex.of (n:=200) ?_;unfold gM;simp only[eu,Ea]at*;generalize qs x=s,LD (qn x)=ns,LD (qd x)=ds at*;generalize xa.length=n;simp -implicitDefEqProofs [tZ,pmE,Bw,o_,wC,f157,aA,w1,w2,w3,u1,u2,u3,h5,h6,g5,g6,gs]
theorem Fj {e:d_}(h1:0<=e.1/\e.1<=10)(h2:0<=e.2.1/\e.2.1<=10)(h3:0<=e.2.2/\e.2.2<=10):ni e=e.1+e.2.1+e.2.2:=by
 unfold ni;rw[wrap_i64 (z:=0+e.1) (by omega),wrap_i64 (z:=0+e.1+e.2.1) (by omega),wrap_i64 (by omega)];omega
def bY (a b:d_):d_:=(a.1+b.1,a.2.1+b.2.1,a.2.2+b.2.2)
theorem TD (p:aJ)(n:Nat):ae.ag n (eu p)=eu p:=by simp[eu,ae.ag,FV.aK,FV.ag]
theorem Pn (xa xb:List D)(i i4 j:Nat)(L:List ae)(l:List aJ)(p q:aJ)(hj:xb[j]?=some (qC q.1 q.2))(hn:xb.length<=100000000)(h4:i4≠0)(hL0:L[0]?=some (.map (l.map cz)))(hL4:L[i4]?=some (eu p))
  (hp:aX p.1=true) (hq:aX q.1=true) (sp:qz p.2<=2000000) (sq:qz q.2<=2000000) (hl:Bd 5000000 l) :
  ∃ L',Ex E1 Bw (gM xa xb (.r (.loc i4) 0) .u .u i 0 (.d (.s 6 xb)) (.d (.v (.int .i64 xb.length))) (.d (.v (.int .i64 j))) .u .u L) (.norm,gM xa xb (.r (.loc i4) 0) .u .u i 0 (.d (.s 6 xb)) (.d (.v (.int .i64 xb.length))) (.d (.v (.int .i64 (j+1:Nat)))) .u .u L') /\
   L'[0]?=some (.map ((if aX (bY p.1 q.1) then kQ l (bY p.1 q.1) (p.2*q.2) else l).map cz))/\L'[i4]?=some (eu p):=by
 have hjl:j<xb.length:=(bE hj)
 have l4:i4<L.length:=(bE hL4)
 have l0:0<L.length:=by omega
 have bg:af .i64 ((j:Int)+1)=(j:Int)+1:=wrap_i64 (by omega);have hk1:((j+1:Nat):Int)=(j:Int)+1:=by omega
 have hk0:(0:Int)<=(j:Int):=by omega
 have hkc:(j:Int)<(xb.length:Int):=by omega
 have r1:=cZ hp;have r2:=cZ hq;have hA1:Ex E1 Bw.l (gM xa xb (.r (.loc i4) 0) .u .u i 0 (.d (.s 6 xb)) (.d (.v (.int .i64 xb.length))) (.d (.v (.int .i64 j))) .u .u L) (.norm,{gM xa xb (.r (.loc i4) 0) .u .u i 0 (.d (.s 6 xb)) (.d (.v (.int .i64 xb.length))) (.d (.v (.int .i64 j))) .u .u L with vars:=(gM xa xb (.r (.loc i4) 0) .u .u i 0 (.d (.s 6 xb)) (.d (.v (.int .i64 xb.length))) (.d (.v (.int .i64 j))) .u .u L).vars.set 15 (.d (.v (.bool true)))}):=by
  refine Ex.of (n:=60) ?_;unfold gM;simp -implicitDefEqProofs [Bw,o_,wC,f157,hkc]
 have hA2:Ex E1 Bw.r.l {gM xa xb (.r (.loc i4) 0) .u .u i 0 (.d (.s 6 xb)) (.d (.v (.int .i64 xb.length))) (.d (.v (.int .i64 j))) .u .u L with vars:=(gM xa xb (.r (.loc i4) 0) .u .u i 0 (.d (.s 6 xb)) (.d (.v (.int .i64 xb.length))) (.d (.v (.int .i64 j))) .u .u L).vars.set 15 (.d (.v (.bool true)))} (.norm,{gM xa xb (.r (.loc i4) 0) .u .u i 0 (.d (.s 6 xb)) (.d (.v (.int .i64 xb.length))) (.d (.v (.int .i64 j))) .u .u L with vars:=(gM xa xb (.r (.loc i4) 0) .u .u i 0 (.d (.s 6 xb)) (.d (.v (.int .i64 xb.length))) (.d (.v (.int .i64 j))) .u .u L).vars.set 15 (.d (.v (.bool true)))}):=by
  refine Ex.of (n:=60) ?_;unfold gM;simp -implicitDefEqProofs [Bw,o_,wC,f157]
 have hB:Ex E1 tZ.l {gM xa xb (.r (.loc i4) 0) .u .u i 0 (.d (.s 6 xb)) (.d (.v (.int .i64 xb.length))) (.d (.v (.int .i64 j))) .u .u L with vars:=(gM xa xb (.r (.loc i4) 0) .u .u i 0 (.d (.s 6 xb)) (.d (.v (.int .i64 xb.length))) (.d (.v (.int .i64 j))) .u .u L).vars.set 15 (.d (.v (.bool true)))}
   (.norm,gM xa xb (.r (.loc i4) 0) (.r (.loc L.length) 0) .u i 0 (.d (.s 6 xb)) (.d (.v (.int .i64 xb.length))) (.d (.v (.int .i64 j))) .u .u (L++[eu q])):=by
  refine Ex.of (n:=60) ?_;unfold gM;obtain⟨⟨a',b',c'⟩,y⟩:=q;simp only[eu,qC,wX,LD]at*;generalize qs y=s,LL (qn y)=ns,LL (qd y)=ds at*;have i1:=idx hj;simp -implicitDefEqProofs [tZ,Bw,o_,wC,f157,hkc,hk0,hjl,hj,i1]
 have hC:Ex E1 tZ.r.l (gM xa xb (.r (.loc i4) 0) (.r (.loc L.length) 0) .u i 0 (.d (.s 6 xb)) (.d (.v (.int .i64 xb.length))) (.d (.v (.int .i64 j))) .u .u (L++[eu q]))
   (.norm,gM xa xb (.r (.loc i4) 0) (.r (.loc L.length) 0) (.r (.loc (L.length+1)) 0) i 0 (.d (.s 6 xb)) (.d (.v (.int .i64 xb.length))) (.d (.v (.int .i64 j))) .u .u (L++[eu q]++[Ea p.1])):=by
  have g4:(L++[eu q])[i4]?=some (eu p):=by rw[List.getElem?_append_left l4];exact hL4
  refine Ex.of (n:=60) ?_;have gl:(L++[eu q]).length=L.length+1:=by simp
  unfold gM;generalize (L++[eu q])=L1 at*;obtain⟨⟨a',b',c'⟩,y⟩:=p;simp only[eu,Ea]at*;generalize qs y=s,LD (qn y)=ns,LD (qd y)=ds at*;simp -implicitDefEqProofs [tZ,Bw,o_,wC,f157,g4,gl]
 have hE:=TC xa xb (.r (.loc i4) 0) (.d (.s 6 xb)) (.d (.v (.int .i64 xb.length))) (.d (.v (.int .i64 j))) i L.length (L.length+1) (L++[eu q]++[Ea p.1]) p.1 q (by omega) (by simp) (by simp) hp hq;have hset:(L++[eu q]++[Ea p.1]).set (L.length+1) (Ea (bY p.1 q.1))=L++[eu q]++[Ea (bY p.1 q.1)]:=by
  rw[List.set_append_right _ _ (by simp)];simp
 have hadd:(p.1.1+q.1.1,p.1.2.1+q.1.2.1,p.1.2.2+q.1.2.2)=bY p.1 q.1:=rfl;rw[hadd,hset]at hE;have hN:∃ L',Ex E1 tZ.r.r.r (gM xa xb (.r (.loc i4) 0) (.r (.loc L.length) 0) (.r (.loc (L.length+1)) 0) i 0 (.d (.s 6 xb)) (.d (.v (.int .i64 xb.length))) (.d (.v (.int .i64 j))) (.d (.v (.int .i64 3))) (.d (.v (.bool false))) (L++[eu q]++[Ea (bY p.1 q.1)]))
   (.norm,gM xa xb (.r (.loc i4) 0) .u .u i 0 (.d (.s 6 xb)) (.d (.v (.int .i64 xb.length))) (.d (.v (.int .i64 j))) .u .u L') /\
   L'[0]?=some (.map ((if aX (bY p.1 q.1) then kQ l (bY p.1 q.1) (p.2*q.2) else l).map cz))/\L'[i4]?=some (eu p):=by
  obtain⟨N1,t1⟩:=(Ca.dO (Ju p.2 q.2 (by omega) (by omega))).any;have hz:=rE p.2 q.2;have g0:(L++[eu q]++[Ea (bY p.1 q.1)])[0]?=some (.map (l.map cz)):=by rw[List.append_assoc,List.getElem?_append_left l0];exact hL0
  have g4:(L++[eu q]++[Ea (bY p.1 q.1)])[i4]?=some (eu p):=by rw[List.append_assoc,List.getElem?_append_left l4];exact hL4
  have g5:(L++[eu q]++[Ea (bY p.1 q.1)])[L.length]?=some (eu q):=by simp
  have g6:(L++[eu q]++[Ea (bY p.1 q.1)])[L.length+1]?=some (Ea (bY p.1 q.1)):=by simp
  generalize (L++[eu q]++[Ea (bY p.1 q.1)])=L3 at*;clear hA1 hA2 hB hC hE hset hL0 hL4;have m0:(List.map (ae.ag 0) L3)[0]?=some (.map (l.map cz)):=by rw[List.getElem?_map,g0];rfl
  by_cases hfit:aX (bY p.1 q.1)=true
  ·obtain⟨N2,B',t2,hlen,hB0,hBj⟩:=Lm (List.map (ae.ag 0) L3) 0 l m0 (bY p.1 q.1) (p.2*q.2) (by omega) (fun y hy=>JQ hl hy) (Fg hfit);rw[if_pos hfit];have hB4:B'[i4]?=some (eu p):=by
    rw[hBj i4 h4 (by simpa using(bE g4)),List.getElem?_map,g4];simp[TD]
   refine⟨B',?_,hB0,hB4⟩;clear hBj hB0 hB4 hlen m0 g0 hl;obtain⟨M,hM⟩:∃ M,M=N1+N2:=⟨_,rfl⟩
   replace t1:=t1 M (by omega);replace t2:=fun k=>bZ (t2 0) (show N2+0<=M+k by omega)
   refine Ex.of (n:=M+100) ?_;unfold gM;generalize bY p.1 q.1=e,p.2*q.2=z at*;obtain⟨⟨a,b,c⟩,x⟩:=p;obtain⟨⟨a',b',c'⟩,y⟩:=q;simp only[eu,Ea,iG,qD,raw,LD]at*;generalize qs x=s,LL (qn x)=ns,LL (qd x)=ds,qs y=s',LL (qn y)=ns',LL (qd y)=ds',qs z=s'',LL (qn z)=Li,LL (qd z)=ds'',xb.length=n at*;simp -implicitDefEqProofs [tZ,Bw,o_,wC,f157,g4,g5,g6,t1,t2,FV.ag,FV.aK]
  ·have ZI:¬ ni (bY p.1 q.1)<=5:=by
    intro hd;apply hfit;rw[Fj (by simp only[bY];omega) (by simp only[bY];omega) (by simp only[bY];omega)]at hd;rw[Pb];simp only[bY]at*;omega
   have t2:=fun n=>E9 n (.m (.old 0)) (bY p.1 q.1) (p.2*q.2) (List.map (ae.ag 0) L3) ZI
   rw[if_neg hfit];refine⟨L3,?_,g0,g4⟩;clear m0 g0 hl ZI hfit;obtain⟨M,hM⟩:∃ M,M=N1+200:=⟨_,rfl⟩
   replace t1:=t1 M (by omega);replace t2:=fun k=>bZ (t2 0) (show 0+200<=M+k by omega)
   refine Ex.of (n:=M+100) ?_;unfold gM;generalize bY p.1 q.1=e,p.2*q.2=z at*;obtain⟨⟨a,b,c⟩,x⟩:=p;obtain⟨⟨a',b',c'⟩,y⟩:=q;simp only[eu,Ea,iG,qD,raw,LD]at*;generalize qs x=s,LL (qn x)=ns,LL (qd x)=ds,qs y=s',LL (qn y)=ns',LL (qd y)=ds',qs z=s'',LL (qn z)=Li,LL (qd z)=ds'',xb.length=n at*;simp -implicitDefEqProofs [tZ,Bw,o_,wC,f157,g4,g5,g6,t1,t2,FV.ag,FV.aK]
 obtain⟨L',hZ,z0,z4⟩:=hN;refine⟨L',?_,z0,z4⟩;have hF:Ex E1 Bw.r.r.r (gM xa xb (.r (.loc i4) 0) .u .u i 0 (.d (.s 6 xb)) (.d (.v (.int .i64 xb.length))) (.d (.v (.int .i64 j))) .u .u L') (.norm,gM xa xb (.r (.loc i4) 0) .u .u i 0 (.d (.s 6 xb)) (.d (.v (.int .i64 xb.length))) (.d (.v (.int .i64 (j+1:Nat)))) .u .u L'):=by
  refine Ex.of (n:=60) ?_;unfold gM;rw[hk1];simp -implicitDefEqProofs [Bw,o_,wC,f157,bg]
 show Ex E1 (.seq Bw.l (.seq Bw.r.l (.seq (.block 3 (.seq tZ.l (.seq tZ.r.l (.seq tZ.r.r.l tZ.r.r.r)))) Bw.r.r.r))) _ _;exact hA1.seq (hA2.seq (((hB.seq (hC.seq (hE.seq hZ))).gy).seq hF))
def gQ (p:aJ)(b:List aJ):List aJ:=(b.map fun q=>(bY p.1 q.1,p.2*q.2)).filter fun x=>aX x.1
def dz (a b:List aJ):List aJ:=a.flatMap fun p=>gQ p b
theorem H_ (p q:aJ)(b:List aJ):gQ p (b++[q])=gQ p b++(if aX (bY p.1 q.1) then [(bY p.1 q.1,p.2*q.2)] else []):=by
 unfold gQ;rw[List.map_append,List.filter_append]
 congr 1
 by_cases h:aX (bY p.1 q.1)=true
 ·simp[h]
 ·simp[h]
theorem t_ (p:aJ)(b:List aJ):(gQ p b).length<=b.length:=by
 unfold gQ;exact Nat.le_trans (List.length_filter_le _ _) (by simp)
theorem Fp {S:Nat}{p:aJ}{b:List aJ}(hp:qz p.2<=S)(hb:Bd S b):Bd (2*S) (gQ p b):=by
 intro x hx;obtain⟨hx,_⟩:=List.mem_filter.1 hx;obtain⟨q,hq,rfl⟩:=List.mem_map.1 hx;have:=rE p.2 q.2;have:=hb q hq;show qz (p.2*q.2)<=_;omega
theorem Ia (p:aJ)(b:List aJ):Fits (gQ p b):=fun x hx=>(List.mem_filter.1 hx).2
theorem nD (a b:List aJ):(dz a b).length<=a.length*b.length:=by
 induction a with
 | nil=>simp[dz]
 | cons p r ih =>
  have h1:dz (p::r) b=gQ p b++dz r b:=by simp[dz]
  have h2:=t_ p b;rw[h1,List.length_append,List.length_cons,Nat.add_mul];omega
theorem Fq {S:Nat}{a b:List aJ}(ha:Bd S a)(hb:Bd S b):Bd (2*S) (dz a b):=by
 intro x hx;obtain⟨p,hp,hx⟩:=List.mem_flatMap.1 hx;exact Fp (ha p hp) hb x hx
theorem zk (a b:List aJ):Fits (dz a b):=fun x hx=>by
 obtain⟨p,_,hx⟩:=List.mem_flatMap.1 hx;exact Ia p b x hx
theorem Ib (a b:List aJ)(p:aJ):dz (a++[p]) b=dz a b++gQ p b:=by simp[dz,List.flatMap_append]
theorem TE (xa:List D)(b:List aJ)(i i4:Nat)(L:List ae)(l:List aJ)(p:aJ)(S T:Nat)(hn:b.length<=100000000)(h4:i4≠0)(hL0:L[0]?=some (.map (l.map cz)))(hL4:L[i4]?=some (eu p))
  (hp:aX p.1=true) (hq:Fits b) (sp:qz p.2<=S) (sq:Bd S b) (hS:S<=2000000) (hl:Bd T l) (hm:T+b.length*(2*S+1)<=5000000) :
  ∃ L' st',Ex E1 (.loop Bw) (gM xa (b.map fun p=>qC p.1 p.2) (.r (.loc i4) 0) .u .u i 0 (.d (au b)) (.d (.v (.int .i64 b.length))) (.d (.v (.int .i64 0))) .u .u L) (.exit 2,st') /\
   st'={gM xa (b.map fun p=>qC p.1 p.2) (.r (.loc i4) 0) .u .u i 0 (.d (au b)) (.d (.v (.int .i64 b.length))) (.d (.v (.int .i64 b.length))) .u .u L' with vars:=(gM xa (b.map fun p=>qC p.1 p.2) (.r (.loc i4) 0) .u .u i 0 (.d (au b)) (.d (.v (.int .i64 b.length))) (.d (.v (.int .i64 b.length))) .u .u L').vars.set 15 (.d (.v (.bool false)))} /\
   L'[0]?=some (.map ((dF l (gQ p b)).map cz))/\L'[i4]?=some (eu p):=by
 have hlen:(b.map fun p=>qC p.1 p.2).length=b.length:=by simp
 obtain⟨r,h1,L',h2,h3,h5⟩:=Ex.inv (E:=E1) (b:=Bw) (α:=Nat × List ae) (S:=fun a=>gM xa (b.map fun p=>qC p.1 p.2) (.r (.loc i4) 0) .u .u i 0 (.d (au b)) (.d (.v (.int .i64 b.length))) (.d (.v (.int .i64 a.1))) .u .u a.2) (fun a=>b.length-a.1)
  (fun a=>a.1<=b.length/\a.2[0]?=some (.map ((dF l (gQ p (b.take a.1))).map cz))/\a.2[i4]?=some (eu p))
  (fun r=>∃ L',r=(.exit 2,{gM xa (b.map fun p=>qC p.1 p.2) (.r (.loc i4) 0) .u .u i 0 (.d (au b)) (.d (.v (.int .i64 b.length))) (.d (.v (.int .i64 b.length))) .u .u L' with vars:=(gM xa (b.map fun p=>qC p.1 p.2) (.r (.loc i4) 0) .u .u i 0 (.d (au b)) (.d (.v (.int .i64 b.length))) (.d (.v (.int .i64 b.length))) .u .u L').vars.set 15 (.d (.v (.bool false)))}) /\
   L'[0]?=some (.map ((dF l (gQ p b)).map cz))/\L'[i4]?=some (eu p)) (by
   rintro⟨k,L⟩ ⟨q1,q2,q3⟩;simp only at q1 q2 q3
   by_cases hk:k<b.length
   ·have hpk:b[k]?=some b[k]:=List.getElem?_eq_getElem hk;have hpm:b[k] ∈ b:=List.getElem_mem hk;have hp2:(b.map fun p=>qC p.1 p.2)[k]?=some (qC b[k].1 b[k].2):=by rw[List.getElem?_map,hpk];rfl
    have hbd:Bd 5000000 (dF l (gQ p (b.take k))):=by
     refine(zh hl (Fp sp (fun x hx=>sq x (List.mem_of_mem_take hx)))).mono ?_;have e1:=t_ p (b.take k);have e2:(b.take k).length<=b.length:=by rw[List.length_take];omega
     exact Nat.le_trans (Nat.add_le_add_left (Nat.mul_le_mul_right _ (Nat.le_trans e1 e2)) _) hm
    obtain⟨L',g1,g2,g3⟩:=Pn xa _ i i4 k L _ p b[k] hp2 (by rw[hlen];exact hn) h4 q2 q3 hp (hq _ hpm) (by omega) (by have:=sq _ hpm;omega) hbd;rw[hlen]at g1;refine .inl ⟨(k+1,L'),g1,by show b.length-(k+1)<b.length-k;omega,by show k+1<=_;omega,?_,g3⟩;show L'[0]?=some (.map ((dF l (gQ p (b.take (k+1)))).map cz));rw[List.take_add_one,hpk];show L'[0]?=some (.map ((dF l (gQ p (b.take k++[b[k]]))).map cz));rw[H_,o7,g2]
    by_cases hf:aX (bY p.1 b[k].1)=true
    ·rw[if_pos hf,if_pos hf];rfl
    ·rw[if_neg hf,if_neg hf];rfl
   ·obtain rfl:k=b.length:=by omega
    rw[List.take_length]at q2;refine .inr ⟨_,Ex.of (n:=60) ?_,?_,L,rfl,q2,q3⟩
    ·simp only[gM];generalize au b=es,(b.map fun p=>qC p.1 p.2)=es2,b.length=n at*;simp -implicitDefEqProofs [Bw,o_,wC,f157]
    ·simp) (0,L) ⟨Nat.zero_le _,hL0,hL4⟩
 subst h2;exact⟨L',_,h1,rfl,h3,h5⟩
def dU (a b:List aJ):List aJ:=canon (dF [] (dz a b))
theorem Pp {S T:Nat}(a b:List aJ)(i:Nat)(L:List ae)(l:List aJ)(p:aJ)(ha:a.length<=100000000)(hb:PV S b)(hS:S<=100000)(hi:a[i]?=some p)(hL0:L[0]?=some (.map (l.map cz)))
  (hp:aX p.1=true) (sp:qz p.2<=S) (hl:Bd T l) (hm:T+b.length*(2*S+1)<=5000000) :
  ∃ L',Ex E1 wC (gM (a.map fun p=>qC p.1 p.2) (b.map fun p=>qC p.1 p.2) .u .u .u i 0 .u .u .u .u .u L) (.norm,gM (a.map fun p=>qC p.1 p.2) (b.map fun p=>qC p.1 p.2) .u .u .u (i+1) 0 .u .u .u .u .u L') /\
   L'[0]?=some (.map ((dF l (gQ p b)).map cz)):=by
 have hlen:(a.map fun p=>qC p.1 p.2).length=a.length:=by simp
 have hlb:(b.map fun p=>qC p.1 p.2).length=b.length:=by simp
 have lb:=hb.length;have hil:i<a.length:=(bE hi)
 have hi2:(a.map fun p=>qC p.1 p.2)[i]?=some (qC p.1 p.2):=by rw[List.getElem?_map,hi];rfl
 have bg:af .i64 ((i:Int)+1)=(i:Int)+1:=wrap_i64 (by omega);have hk1:((i+1:Nat):Int)=(i:Int)+1:=by omega
 have hk0:(0:Int)<=(i:Int):=by omega
 have hkc:(i:Int)<(a.length:Int):=by omega
 have l0:0<L.length:=(bE hL0)
 obtain⟨N,t⟩:=(mr hb hS).get;obtain⟨L',st',hL,rfl,z0,z4⟩:=TE (a.map fun p=>qC p.1 p.2) b i L.length (L++[eu p]) l p S T (by omega) (by omega) (by rw[List.getElem?_append_left l0];exact hL0) (by simp) hp hb.fits sp hb.bd (by omega) hl hm;refine⟨L',?_,z0⟩;have hA1:Ex E1 wC.l (gM (a.map fun p=>qC p.1 p.2) (b.map fun p=>qC p.1 p.2) .u .u .u i 0 .u .u .u .u .u L)
   (.norm,{gM (a.map fun p=>qC p.1 p.2) (b.map fun p=>qC p.1 p.2) .u .u .u i 0 .u .u .u .u .u L with vars:=(gM (a.map fun p=>qC p.1 p.2) (b.map fun p=>qC p.1 p.2) .u .u .u i 0 .u .u .u .u .u L).vars.set 11 (.d (.v (.bool true)))}):=by
  refine Ex.of (n:=60) ?_;unfold gM;rw[hlen];simp -implicitDefEqProofs [wC,f157,hkc]
 have hA2:Ex E1 wC.r.l {gM (a.map fun p=>qC p.1 p.2) (b.map fun p=>qC p.1 p.2) .u .u .u i 0 .u .u .u .u .u L with vars:=(gM (a.map fun p=>qC p.1 p.2) (b.map fun p=>qC p.1 p.2) .u .u .u i 0 .u .u .u .u .u L).vars.set 11 (.d (.v (.bool true)))}
   (.norm,{gM (a.map fun p=>qC p.1 p.2) (b.map fun p=>qC p.1 p.2) .u .u .u i 0 .u .u .u .u .u L with vars:=(gM (a.map fun p=>qC p.1 p.2) (b.map fun p=>qC p.1 p.2) .u .u .u i 0 .u .u .u .u .u L).vars.set 11 (.d (.v (.bool true)))}):=by
  refine Ex.of (n:=60) ?_;unfold gM;rw[hlen];simp -implicitDefEqProofs [wC,f157]
 have hB:Ex E1 o_.l {gM (a.map fun p=>qC p.1 p.2) (b.map fun p=>qC p.1 p.2) .u .u .u i 0 .u .u .u .u .u L with vars:=(gM (a.map fun p=>qC p.1 p.2) (b.map fun p=>qC p.1 p.2) .u .u .u i 0 .u .u .u .u .u L).vars.set 11 (.d (.v (.bool true)))}
   (.norm,gM (a.map fun p=>qC p.1 p.2) (b.map fun p=>qC p.1 p.2) (.r (.loc L.length) 0) .u .u i 0 .u .u .u .u .u (L++[eu p])):=by
  refine Ex.of (n:=60) ?_;unfold gM;have abT:i<(a.map fun p=>qC p.1 p.2).length:=by rw[hlen];exact hil
  clear hL z0 z4 t;rw[hlen];generalize (b.map fun p=>qC p.1 p.2)=es2,(a.map fun p=>qC p.1 p.2)=es1 at*;obtain⟨⟨a',b',c'⟩,y⟩:=p;simp only[eu,qC,wX,LD]at*;generalize qs y=s,LL (qn y)=ns,LL (qd y)=ds at*;have i1:=idx hi2;simp -implicitDefEqProofs [o_,wC,f157,hkc,hk0,abT,hi2,i1]
 have hC:Ex E1 o_.r.l (gM (a.map fun p=>qC p.1 p.2) (b.map fun p=>qC p.1 p.2) (.r (.loc L.length) 0) .u .u i 0 .u .u .u .u .u (L++[eu p]))
   (.norm,gM (a.map fun p=>qC p.1 p.2) (b.map fun p=>qC p.1 p.2) (.r (.loc L.length) 0) .u .u i 0 (.d (au b)) (.d (.v (.int .i64 b.length))) (.d (.v (.int .i64 0))) .u .u (L++[eu p])):=by
  refine Ex.of (n:=N+60) ?_;unfold gM au at*;clear hL z0 z4 hi2;generalize (L++[eu p])=L1 at*;rw[hlen,<-hlb];clear hlb lb;generalize (b.map fun p=>qC p.1 p.2)=es2,(a.map fun p=>qC p.1 p.2)=es1 at*;simp -implicitDefEqProofs [o_,wC,f157,t]
 have hF:Ex E1 wC.r.r.r {gM (a.map fun p=>qC p.1 p.2) (b.map fun p=>qC p.1 p.2) (.r (.loc L.length) 0) .u .u i 0 (.d (au b)) (.d (.v (.int .i64 b.length))) (.d (.v (.int .i64 b.length))) .u .u L' with vars:=(gM (a.map fun p=>qC p.1 p.2) (b.map fun p=>qC p.1 p.2) (.r (.loc L.length) 0) .u .u i 0 (.d (au b)) (.d (.v (.int .i64 b.length))) (.d (.v (.int .i64 b.length))) .u .u L').vars.set 15 (.d (.v (.bool false)))}
   (.norm,gM (a.map fun p=>qC p.1 p.2) (b.map fun p=>qC p.1 p.2) .u .u .u (i+1) 0 .u .u .u .u .u L'):=by
  refine Ex.of (n:=60) ?_;unfold gM;clear hL z0 z4 hi2 hB hC hA1 hA2;rw[hlen,hk1];generalize au b=es3,(b.map fun p=>qC p.1 p.2)=es2,(a.map fun p=>qC p.1 p.2)=es1 at*;simp -implicitDefEqProofs [o_,wC,f157,bg]
 show Ex E1 (.seq wC.l (.seq wC.r.l (.seq (.block 1 (.seq o_.l (.seq o_.r.l (.block 2 (.loop Bw))))) wC.r.r.r))) _ _;exact hA1.seq (hA2.seq (((hB.seq (hC.seq hL.block)).gy).seq hF))
theorem TF {S:Nat}(a b:List aJ)(L:List ae)(ha:a.length<=100000000)(hb:PV S b)(hS:S<=100000)(hL0:L[0]?=some (.map []))(fa:Fits a)(sa:Bd S a)(hm:a.length*(b.length*(2*S+1))<=5000000) :
  ∃ L' st',Ex E1 (.loop wC) (gM (a.map fun p=>qC p.1 p.2) (b.map fun p=>qC p.1 p.2) .u .u .u 0 0 .u .u .u .u .u L) (.exit 0,st') /\
   st'={gM (a.map fun p=>qC p.1 p.2) (b.map fun p=>qC p.1 p.2) .u .u .u a.length 0 .u .u .u .u .u L' with vars:=(gM (a.map fun p=>qC p.1 p.2) (b.map fun p=>qC p.1 p.2) .u .u .u a.length 0 .u .u .u .u .u L').vars.set 11 (.d (.v (.bool false)))} /\
   L'[0]?=some (.map ((dF [] (dz a b)).map cz)):=by
 have hlen:(a.map fun p=>qC p.1 p.2).length=a.length:=by simp
 obtain⟨r,h1,L',h2,h3⟩:=Ex.inv (E:=E1) (b:=wC) (α:=Nat × List ae) (S:=fun x=>gM (a.map fun p=>qC p.1 p.2) (b.map fun p=>qC p.1 p.2) .u .u .u x.1 0 .u .u .u .u .u x.2) (fun x=>a.length-x.1)
  (fun x=>x.1<=a.length/\x.2[0]?=some (.map ((dF [] (dz (a.take x.1) b)).map cz)))
  (fun r=>∃ L',r=(.exit 0,{gM (a.map fun p=>qC p.1 p.2) (b.map fun p=>qC p.1 p.2) .u .u .u a.length 0 .u .u .u .u .u L' with vars:=(gM (a.map fun p=>qC p.1 p.2) (b.map fun p=>qC p.1 p.2) .u .u .u a.length 0 .u .u .u .u .u L').vars.set 11 (.d (.v (.bool false)))}) /\
   L'[0]?=some (.map ((dF [] (dz a b)).map cz))) (by
   rintro⟨k,L⟩ ⟨q1,q2⟩;simp only at q1 q2
   by_cases hk:k<a.length
   ·have hpk:a[k]?=some a[k]:=List.getElem?_eq_getElem hk;have hpm:a[k] ∈ a:=List.getElem_mem hk;have hbd:Bd (k*(b.length*(2*S+1))) (dF [] (dz (a.take k) b)):=by
     refine(zh (S:=0) (T:=2*S) (fun p hp=>by cases hp) (Fq (fun x hx=>sa x (List.mem_of_mem_take hx)) hb.bd)).mono ?_;have e1:=nD (a.take k) b;have e2:(a.take k).length=k:=by rw[List.length_take];omega
     rw[e2]at e1;rw[Nat.zero_add,<-Nat.mul_assoc];exact Nat.mul_le_mul_right _ e1
    have hmm:k*(b.length*(2*S+1))+b.length*(2*S+1)<=5000000:=by
     have:(k+1)*(b.length*(2*S+1))<=a.length*(b.length*(2*S+1)):=Nat.mul_le_mul_right _ (by omega);rw[Nat.add_mul,Nat.one_mul]at this;omega
    obtain⟨L',g1,g2⟩:=Pp a b k L _ a[k] ha hb hS hpk q2 (fa _ hpm) (sa _ hpm) hbd hmm;refine .inl ⟨(k+1,L'),g1,by show a.length-(k+1)<a.length-k;omega,by show k+1<=_;omega,?_⟩;show L'[0]?=some (.map ((dF [] (dz (a.take (k+1)) b)).map cz));rw[List.take_add_one,hpk];show L'[0]?=some (.map ((dF [] (dz (a.take k++[a[k]]) b)).map cz));rw[Ib,o7,g2]
   ·obtain rfl:k=a.length:=by omega
    rw[List.take_length]at q2;refine .inr ⟨_,Ex.of (n:=60) ?_,?_,L,rfl,q2⟩
    ·simp only[gM,hlen];generalize (b.map fun p=>qC p.1 p.2)=es2,(a.map fun p=>qC p.1 p.2)=es1,a.length=n at*;simp -implicitDefEqProofs [wC,f157]
    ·simp) (0,L) ⟨Nat.zero_le _,hL0⟩
 subst h2;exact⟨L',_,h1,rfl,h3⟩
theorem Dj {S:Nat}{a b:List aJ}(ha:PV S a)(hb:PV S b)(hS:S<=100000)(hm:a.length*(b.length*(2*S+1))<=5000000):Ca E1 157 [.d (au a),.d (au b)] (.d (au (dU a b)),none):=by
 have la:=ha.length;have hlen:(a.map fun p=>qC p.1 p.2).length=a.length:=by simp
 obtain⟨N,t1⟩:=(mr ha hS).get;have hA:Ex E1 f157.body.l (st0 [.d (au a),.d (au b),.u,.u,.u,.u,.u,.u,.u,.u,.u,.u,.u,.u,.u,.u,.u,.u] []) (.norm,(st0 [.d (au a),.d (au b),.u,.u,.u,.u,.u,.u,.u,.u,.u,.u,.u,.u,.u,.u,.u,.u] [])):=by
  refine Ex.of (n:=60) ?_;generalize au a=x1;generalize au b=x2;simp -implicitDefEqProofs [f157]
 have hMk:Ex E1 f157.body.r.l (st0 [.d (au a),.d (au b),.u,.u,.u,.u,.u,.u,.u,.u,.u,.u,.u,.u,.u,.u,.u,.u] []) (.norm,(st0 [.d (au a),.d (au b),.u,.m (.loc 0),.u,.u,.u,.u,.u,.u,.u,.u,.u,.u,.u,.u,.u,.u] [.map []])):=by
  refine Ex.of (n:=60) ?_;generalize au a=x1;generalize au b=x2;simp -implicitDefEqProofs [f157]
 have hC:Ex E1 f157.body.r.r.l.l (st0 [.d (au a),.d (au b),.u,.m (.loc 0),.u,.u,.u,.u,.u,.u,.u,.u,.u,.u,.u,.u,.u,.u] [.map []]) (.norm,gM (a.map fun p=>qC p.1 p.2) (b.map fun p=>qC p.1 p.2) .u .u .u 0 0 .u .u .u .u .u [.map []]):=by
  refine Ex.of (n:=N+60) ?_;unfold au gM at*;generalize (a.map fun p=>qC p.1 p.2)=es1,(b.map fun p=>qC p.1 p.2)=es2 at*;simp -implicitDefEqProofs [f157,t1]
 obtain⟨L',st',hl,rfl,hL'⟩:=TF a b [.map []] (by omega) hb hS rfl ha.fits ha.bd hm;have hmE:(dz a b).length*(2*S+1)<=5000000:=by
  have:=nD a b;rw[<-Nat.mul_assoc]at hm;exact Nat.le_trans (Nat.mul_le_mul_right _ this) hm
 have t4:=fun m=>Bv hL' (zk a b) (Fq ha.bd hb.bd) hmE m
 have Gu:au (canon (dF [] (dz a b)))=au (dU a b):=rfl;rw[Gu]at t4;have hD:Ex E1 f157.body.r.r.r {gM (a.map fun p=>qC p.1 p.2) (b.map fun p=>qC p.1 p.2) .u .u .u a.length 0 .u .u .u .u .u L' with vars:=(gM (a.map fun p=>qC p.1 p.2) (b.map fun p=>qC p.1 p.2) .u .u .u a.length 0 .u .u .u .u .u L').vars.set 11 (.d (.v (.bool false)))}
   (.ret,(st0 [.u,.u,.d (au (dU a b)),.u,.u,.u,.u,.u,.u,.u,.u,.u,.u,.u,.u,.u,.u,.u] (L'))):=by
  refine Ex.of (n:=100) ?_;unfold au gM at*;clear hl hA hMk hC;generalize (a.map fun p=>qC p.1 p.2)=es,(b.map fun p=>qC p.1 p.2)=es2,((dU a b).map fun p=>qC p.1 p.2)=es1 at*;simp -implicitDefEqProofs [f157,t4,FV.ag,FV.aK]
 refine Ca.body (o:=.ret) (st1:=(st0 [.u,.u,.d (au (dU a b)),.u,.u,.u,.u,.u,.u,.u,.u,.u,.u,.u,.u,.u,.u,.u] (L'))) rfl (k157:E1.fn _=_) rfl ?_ (by intro id h;cases h) ?_
 ·show Ex E1 (.seq f157.body.l (.seq f157.body.r.l (.seq (.seq f157.body.r.r.l.l (.block 0 (.loop wC))) f157.body.r.r.r))) _ _;exact hA.seq (hMk.seq ((hC.seq hl.block).seq hD))
 ·unfold au;generalize ((dU a b).map fun p=>qC p.1 p.2)=es1 at*;simp -implicitDefEqProofs [f157]
end Fi.S
namespace Fi.S
open Go Fi
theorem lG:∀ {l:List aJ},Keys l->∀ {p:aJ},p ∈ l->tot l p.1=p.2
 | [],_,_,hp=>by cases hp
 | (a,y)::r,h,p,hp=>by
  unfold Keys at h;simp only[List.map_cons,List.nodup_cons]at h;rcases List.mem_cons.1 hp with h0|hp2
  ·subst h0;have hr:∀ x ∈ r,x.1≠a:=fun x hx he=>h.1 (he ▸ List.mem_map.2 ⟨x,hx,rfl⟩)
   simp only[tot,if_true,gL hr];grind
  ·have h1:¬ a=p.1:=fun he=>h.1 (he ▸ List.mem_map.2 ⟨p,hp2,rfl⟩)
   simp only[tot,if_neg h1,lG h.2 hp2];grind
theorem nE {S:Nat}(hS:1<=S){l:List aJ}(h:Keys l)(hb:Bd S l)(e:d_):qz (tot l e)<=S:=by
 cases hg:gK l e with
 | none =>
  rw[gL (Bt hg)];exact Nat.le_trans fE hS
 | some y =>
  have h1:=tT hg;have h2:=lG h h1;simp only at h2;rw[h2];exact hb _ h1
theorem Fs {S:Nat}{l:List aJ}(hk:Keys l)(hf:Fits l)(hb:∀ e,qz (tot l e)<=S):PV S (canon l):=by
 refine⟨vg hk,Fe l,fun p hp=>hf p (qo.1 hp).1,fun p hp => ?_⟩;have:=lG (dG (vg hk)) hp;rw[qm]at this;rw[<-this];exact hb _
theorem uf (l:List aJ):(canon l).length<=l.length:=by
 unfold canon;rw[List.length_mergeSort];exact List.length_filter_le _ _
theorem kR {S T:Nat}(hS:1<=S)(hT:1<=T){a b:List aJ}(ha:PV S a)(hb:PV T b):PV (S+T+1) (fF a b):=by
 refine Fs (tV keys_nil) (tY (fun p hp=>by cases hp) ?_) fun e => ?_
 ·intro p hp;rcases List.mem_append.1 hp with hp|hp
  ·exact ha.fits p hp
  ·exact hb.fits p hp
 ·have h1:tot (dF [] (a++b)) e=tot a e+tot b e:=by
   rw[tX keys_nil,gI];simp only[tot];grind
  rw[h1];have h2:=m_ (tot a e) (tot b e);have h3:=nE hS (dG ha.zi) ha.bd e;have h4:=nE hT (dG hb.zi) hb.bd e;omega
theorem wE (a b:List aJ):(fF a b).length<=a.length+b.length:=by
 have h1:=uf (dF [] (a++b));have h2:=rT (ms:=a++b) (l:=[]);rw[List.length_append]at h2;show(canon (dF [] (a++b))).length<=_;simp only[List.length_nil]at h2;omega
theorem pg (a b:List aJ):(dU a b).length<=a.length*b.length:=by
 have h1:=uf (dF [] (dz a b));have h2:=rT (ms:=dz a b) (l:=[]);have h3:=nD a b;show(canon (dF [] (dz a b))).length<=_;simp only[List.length_nil]at h2;omega
theorem Ic {p:aJ}{b:List aJ}(hb:Keys b):Keys (gQ p b):=by
 have h1:Keys (b.map fun q=>(bY p.1 q.1,p.2*q.2)):=by
  unfold Keys at*;rw[List.nodup_iff_pairwise_ne,List.pairwise_map]at hb;rw[List.map_map,List.nodup_iff_pairwise_ne,List.pairwise_map];refine hb.imp ?_;intro x y hne he;apply hne;simp only[Function.comp,bY,Prod.mk.injEq]at he;obtain⟨⟨a,b,c⟩,_⟩:=x;obtain⟨⟨a',b',c'⟩,_⟩:=y;simp only at he;simp only[Prod.mk.injEq];omega
 unfold Keys gQ at*;exact List.Nodup.sublist (List.filter_sublist.map _) h1
theorem ug {S T:Nat}(hS:1<=S){b:List aJ}(hb:PV T b)(e:d_):∀ {a:List aJ},Bd S a->qz (tot (dz a b) e)<=a.length*(S+T+1)+1
 | [],_=>by
  have:=fE;simp only[dz,List.flatMap_nil,tot,List.length_nil];omega
 | p::a,ha=>by
  have h1:dz (p::a) b=gQ p b++dz a b:=by simp[dz]
  rw[h1,gI];have h2:=m_ (tot (gQ p b) e) (tot (dz a b) e);have h3:=ug hS hb e (a:=a) (fun x hx=>ha x (List.mem_cons_of_mem _ hx));have h4:Bd (S+T) (gQ p b):=by
   intro x hx;obtain⟨hx,_⟩:=List.mem_filter.1 hx;obtain⟨q,hq,rfl⟩:=List.mem_map.1 hx;have g1:=rE p.2 q.2;have g2:=hb.bd q hq;have g3:=ha p (List.mem_cons_self ..);show qz (p.2*q.2)<=_;omega
  have h5:=nE (by omega) (Ic (dG hb.zi)) h4 e;rw[List.length_cons,Nat.add_mul];omega
theorem pz (a b:List aJ)(e:d_):tot (dU a b) e=tot (dz a b) e:=by
 unfold dU;rw[qm,tX keys_nil];simp only[tot];grind
theorem uh {S T:Nat}(hS:1<=S){a b:List aJ}(ha:PV S a)(hb:PV T b):PV (a.length*(S+T+1)+1) (dU a b):=by
 refine Fs (tV keys_nil) (tY (fun p hp=>by cases hp) (zk a b)) fun e => ?_
 have h1:tot (dF [] (dz a b)) e=tot (dz a b) e:=by
  rw[tX keys_nil];simp only[tot];grind
 rw[h1];exact ug hS hb e ha.bd
end Fi.S
