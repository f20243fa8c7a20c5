import Derived.Test.YtckkhcnfdmlabaaGreatDoorCH
import Derived.Test.YtckkhcnfdmlabaaGreatDoorCF
set_option linter.unusedVariables false
set_option linter.unusedSimpArgs false
noncomputable section
namespace Fi.S
open Go Fi
abbrev fE:Type:=Int × Int × Int
def tot:List aW->fE->Rat
 | [],_=>0
 | (a,y)::r,e=>(if a=e then y else 0)+tot r e
theorem jb (a b:List aW)(e:fE):tot (a++b) e=tot a e+tot b e:=by
 induction a with
 | nil=>simp[tot,Rat.zero_add]
 | cons p r ih=>simp only[List.cons_append,tot,ih];grind
theorem SL {a b:List aW}(h:a.Perm b)(e:fE):tot a e=tot b e:=by
 induction h with
 | nil=>rfl
 | cons p _ ih=>simp only[tot,ih]
 | swap p q l=>simp only[tot];grind
 | trans _ _ h1 h2=>rw[h1,h2]
theorem kE {l:List aW}{e:fE}(h:∀ p ∈ l,p.1≠e):tot l e=0:=by
 induction l with
 | nil=>rfl
 | cons p r ih =>
  have h1:=h p (List.mem_cons_self ..);have h2:=ih (fun q hq=>h q (List.mem_cons_of_mem _ hq));simp only[tot,if_neg h1,h2];grind
theorem KV (l:List aW)(e:fE):tot (l.filter fun p=>decide (p.2≠0)) e=tot l e:=by
 induction l with
 | nil=>rfl
 | cons p r ih =>
  obtain⟨a,y⟩:=p
  by_cases hy:y=0
  ·subst hy;rw[List.filter_cons_of_neg (by simp)];simp only[tot,ih]
   by_cases h:a=e<;>simp[h,Rat.zero_add]
  ·rw[List.filter_cons_of_pos (by simpa using hy)];simp only[tot,ih]
theorem OY {l:List aW}{e:fE}(h:kZ l e=none):∀ p ∈ l,p.1≠e:=by
 induction l with
 | nil=>intro p hp;cases hp
 | cons q r ih =>
  intro p hp;unfold kZ at h;split at h
  ·cases h
  ·rename_i hne;rcases List.mem_cons.1 hp with rfl|hp
   ·exact fun he=>hne he.symm
   ·exact ih h p hp
theorem Bp {l:List aW}{e:fE}{y:Rat}(h:kZ l e=some y):(e,y) ∈ l:=by
 induction l with
 | nil=>cases h
 | cons q r ih =>
  unfold kZ at h;split at h
  ·rename_i he;cases h;subst he;exact List.mem_cons_self ..
  ·exact List.mem_cons_of_mem _ (ih h)
theorem SN {l:List aW}{e:fE}{y:Rat}{p:aW}(h:p ∈ uF l e y):p=(e,y)\/p ∈ l:=by
 induction l with
 | nil=>simp only[uF,List.mem_singleton]at h;exact .inl h
 | cons q r ih =>
  unfold uF at h;split at h
  ·rcases List.mem_cons.1 h with rfl|h
   ·exact .inl rfl
   ·exact .inr (List.mem_cons_of_mem _ h)
  ·rcases List.mem_cons.1 h with rfl|h
   ·exact .inr (List.mem_cons_self ..)
   ·rcases ih h with h|h
    ·exact .inl h
    ·exact .inr (List.mem_cons_of_mem _ h)
theorem Ej (l:List aW)(e:fE)(y:Rat):(uF l e y).map (·.1)=l.map (·.1)\/((∀ p ∈ l,p.1≠e)/\(uF l e y).map (·.1)=l.map (·.1)++[e]):=by
 induction l with
 | nil=>exact .inr ⟨by simp,rfl⟩
 | cons q r ih =>
  obtain⟨a,x⟩:=q;unfold uF
  by_cases h:e=a
  ·subst h;left;simp
  ·rw[if_neg h];rcases ih with ih|⟨h1,ih⟩
   ·left;simp only[List.map_cons,ih]
   ·right
    refine⟨fun p hp => ?_,by simp only[List.map_cons,ih,List.cons_append]⟩;rcases List.mem_cons.1 hp with rfl|hp
    ·exact fun he=>h he.symm
    ·exact h1 p hp
def Keys (l:List aW):Prop:=(l.map (·.1)).Nodup
theorem SQ {l:List aW}(h:Keys l)(e:fE)(y:Rat):Keys (uF l e y):=by
 unfold Keys at*;rcases Ej l e y with h1|⟨h1,h2⟩
 ·rw[h1];exact h
 ·rw[h2,List.nodup_append];refine⟨h,by simp,?_⟩;intro a ha b hb;simp only[List.mem_singleton]at hb;subst hb;obtain⟨p,hp,rfl⟩:=List.mem_map.1 ha;exact h1 p hp
theorem Xj {l:List aW}(h:Keys l)(e:fE)(y:Rat)(e':fE):tot (uF l e y) e'=if e=e' then y else tot l e':=by
 induction l with
 | nil=>simp only[uF,tot];split<;>grind
 | cons q r ih =>
  obtain⟨a,x⟩:=q;unfold Keys at h ih;simp only[List.map_cons,List.nodup_cons]at h;have hr:∀ p ∈ r,p.1≠a:=fun p hp he=>h.1 (he ▸ List.mem_map.2 ⟨p,hp,rfl⟩)
  unfold uF
  by_cases he:e=a
  ·subst he;rw[if_pos rfl];simp only[tot]
   by_cases h2:e=e'
   ·subst h2;simp only[if_pos,kE hr];grind
   ·simp only[if_neg h2]
  ·rw[if_neg he];simp only[tot,ih h.2]
   by_cases h2:e=e'
   ·subst h2;have:¬ a=e:=fun h3=>he h3.symm
    simp only[if_neg this,if_true];grind
   ·simp only[if_neg h2]
theorem SS {l:List aW}(h:Keys l)(e:fE):(kZ l e).getD 0=tot l e:=by
 induction l with
 | nil=>rfl
 | cons q r ih =>
  obtain⟨a,x⟩:=q;unfold Keys at h ih;simp only[List.map_cons,List.nodup_cons]at h;have hr:∀ p ∈ r,p.1≠a:=fun p hp he=>h.1 (he ▸ List.mem_map.2 ⟨p,hp,rfl⟩)
  unfold kZ
  by_cases he:e=a
  ·subst he;simp only[if_true,Option.getD_some,tot,kE hr];grind
  ·have h2:¬ a=e:=fun h3=>he h3.symm
   rw[if_neg he];simp only[tot,if_neg h2,ih h.2];grind
theorem Il {l:List aW}(h:Keys l)(e:fE)(c:Rat):Keys (qm l e c):=SQ h e _
theorem Xk {l:List aW}(h:Keys l)(e:fE)(c:Rat)(e':fE):tot (qm l e c) e'=tot l e'+if e=e' then c else 0:=by
 unfold qm;rw[Xj h,SS h]
 by_cases h2:e=e'
 ·subst h2;simp
 ·simp only[if_neg h2];grind
theorem d9 (e:fE):kK e e=false:=by
 cases h:kK e e with
 | false=>rfl
 | true=>rw[lH]at h;omega
theorem nQ {a b c:fE}(h1:kK a b=true)(h2:kK b c=true):kK a c=true:=by
 rw[lH]at*;omega
def Za (l:List aW):Prop:=l.Pairwise fun a b=>kK a.1 b.1=true
def Nz (l:List aW):Prop:=∀ p ∈ l,p.2≠0
theorem iV {l:List aW}(h:Za l):Keys l:=by
 unfold Keys;rw[List.nodup_iff_pairwise_ne,List.pairwise_map];refine h.imp ?_;intro a b hab he;rw[he,d9]at hab;cases hab
theorem M8:∀ {l m:List aW},Za l->Za m->Nz l->Nz m->(∀ e,tot l e=tot m e)->l=m
 | [],[],_,_,_,_,_=>rfl
 | [],(b,y)::m,_,hm,_,hn,h=>by
  have h1:=h b;have h2:tot m b=0:=kE fun p hp he=>by
   have:=(List.pairwise_cons.1 hm).1 p hp;rw[he,d9]at this;cases this
  have h3:=hn (b,y) (List.mem_cons_self ..);simp only[tot,if_true,h2]at h1;grind
 | (a,x)::l,[],hl,_,hn,_,h=>by
  have h1:=h a;have h2:tot l a=0:=kE fun p hp he=>by
   have:=(List.pairwise_cons.1 hl).1 p hp;rw[he,d9]at this;cases this
  have h3:=hn (a,x) (List.mem_cons_self ..);simp only[tot,if_true,h2]at h1;grind
 | (a,x)::l,(b,y)::m,hl,hm,hn,hk,h=>by
  have hl':=List.pairwise_cons.1 hl;have hm':=List.pairwise_cons.1 hm;have zl:∀ e,(e=a\/kK e a=true)->tot l e=0:=fun e he=>kE fun p hp hpe=>by
   have h1:=hl'.1 p hp;simp only at h1;rw[hpe]at h1;rcases he with rfl|he
   ·rw[d9]at h1;cases h1
   ·have:=nQ h1 he;rw[d9]at this;cases this
  have zm:∀ e,(e=b\/kK e b=true)->tot m e=0:=fun e he=>kE fun p hp hpe=>by
   have h1:=hm'.1 p hp;simp only at h1;rw[hpe]at h1;rcases he with rfl|he
   ·rw[d9]at h1;cases h1
   ·have:=nQ h1 he;rw[d9]at this;cases this
  have hx:=hn (a,x) (List.mem_cons_self ..);have hy:=hk (b,y) (List.mem_cons_self ..);have hab:a=b:=by
   cases h1:kK a b with
   | true =>
    have e1:=h a;have hne:¬ b=a:=fun h2=>by rw[h2,d9]at h1;cases h1
    simp only[tot,if_true,if_neg hne,zl a (.inl rfl),zm a (.inr h1)]at e1;grind
   | false =>
    cases h2:kK b a with
    | true =>
     have e1:=h b;have hne:¬ a=b:=fun h3=>by rw[h3,d9]at h2;cases h2
     simp only[tot,if_true,if_neg hne,zm b (.inl rfl),zl b (.inr h2)]at e1;grind
    | false=>exact jW h1 h2
  subst hab;have hxy:x=y:=by
   have e1:=h a;simp only[tot,if_true,zl a (.inl rfl),zm a (.inl rfl)]at e1;grind
  subst hxy;have:l=m:=M8 hl'.2 hm'.2 (fun p hp=>hn p (List.mem_cons_of_mem _ hp)) (fun p hp=>hk p (List.mem_cons_of_mem _ hp)) (fun e=>by
   have e1:=h e;simp only[tot]at e1;grind)
  rw[this]
def canon (l:List aW):List aW:=(l.filter fun p=>decide (p.2≠0)).mergeSort fun a b => !kK b.1 a.1
theorem xN (l:List aW)(e:fE):tot (canon l) e=tot l e:=by
 unfold canon;rw[SL (List.mergeSort_perm _ _),KV]
theorem El {l:List aW}{p:aW}:p ∈ canon l↔p ∈ l/\p.2≠0:=by
 unfold canon;rw[(List.mergeSort_perm _ _).mem_iff];simp
theorem SV (l:List aW):Nz (canon l):=fun p hp=>(El.1 hp).2
theorem Em {l:List aW}(h:Keys l):Za (canon l):=by
 have h1:((canon l).map (·.1)).Nodup:=by
  have hp:(canon l).Perm (l.filter fun p=>decide (p.2≠0)):=List.mergeSort_perm _ _;refine((hp.map (·.1)).nodup_iff).2 ?_;exact List.Nodup.sublist (List.filter_sublist.map _) h
 have h2:(canon l).Pairwise fun a b=>(!kK b.1 a.1)=true:=by
  refine List.pairwise_mergeSort (fun a b c hab hbc => ?_) (fun a b => ?_) _
  ·simp only[Bool.not_eq_true',Bool.not_eq_eq_eq_not,Bool.not_true]at*;cases h3:kK c.1 a.1 with
   | false=>rfl
   | true =>
    cases h4:kK b.1 c.1 with
    | true=>have:=nQ h4 h3;rw[this]at hab;cases hab
    | false =>
     have:=jW h4 hbc;rw[this]at hab;rw[hab]at h3;cases h3
  ·cases h3:kK b.1 a.1 with
   | false=>rfl
   | true =>
    cases h4:kK a.1 b.1 with
    | false=>rfl
    | true=>have:=nQ h3 h4;rw[d9]at this;cases this
 rw[List.nodup_iff_pairwise_ne,List.pairwise_map]at h1;refine(h1.and h2).imp ?_;rintro a b ⟨hne,hle⟩;simp only[Bool.not_eq_true',Bool.not_eq_eq_eq_not,Bool.not_true]at hle;cases h3:kK a.1 b.1 with
 | true=>rfl
 | false=>exact absurd (jW h3 hle) hne
def fZ (l ms:List aW):List aW:=ms.foldl (fun s p=>qm s p.1 p.2) l
theorem xO (l:List aW)(p:aW)(ms:List aW):fZ l (p::ms)=fZ (qm l p.1 p.2) ms:=rfl
theorem Im (l a b:List aW):fZ l (a++b)=fZ (fZ l a) b:=by simp[fZ,List.foldl_append]
theorem vM:∀ {ms l:List aW},Keys l->Keys (fZ l ms)
 | [],_,h=>h
 | p::ms,l,h=>vM (ms:=ms) (Il h p.1 p.2)
theorem vO:∀ {ms l:List aW},Keys l->∀ e,tot (fZ l ms) e=tot l e+tot ms e
 | [],l,h,e=>by simp only[fZ,List.foldl_nil,tot];grind
 | p::ms,l,h,e=>by
  rw[xO,vO (Il h p.1 p.2),Xk h];simp only[tot];grind
theorem put_mem {l:List aW}{e:fE}{c:Rat}{p:aW}(h:p ∈ qm l e c):p=(e,(kZ l e).getD 0+c)\/p ∈ l:=SN h
def Fits (l:List aW):Prop:=∀ p ∈ l,bP p.1=true
def Bd (S:Nat)(l:List aW):Prop:=∀ p ∈ l,qz p.2<=S
theorem Bd.mono {S T:Nat}{l:List aW}(h:Bd S l)(hST:S<=T):Bd T l:=fun p hp=>Nat.le_trans (h p hp) hST
theorem SX {l:List aW}(h:Fits l){e:fE}(he:bP e=true)(c:Rat):Fits (qm l e c):=by
 intro p hp;rcases put_mem hp with rfl|hp
 ·exact he
 ·exact h p hp
theorem aaH {S:Nat}{l:List aW}(h:Bd S l)(e:fE){c:Rat}{T:Nat}(hc:qz c<=T):Bd (S+T+1) (qm l e c):=by
 intro p hp;rcases put_mem hp with rfl|hp
 ·show qz ((kZ l e).getD 0+c)<=_;cases hg:kZ l e with
  | none =>
   have:(0:Rat)+c=c:=Rat.zero_add c;simp only[Option.getD_none,this];omega
  | some y =>
   have h1:=h _ (Bp hg);have h2:=oH y c;simp only[Option.getD_some]at*;omega
 ·have:=h p hp;omega
theorem KW (l:List aW)(e:fE)(c:Rat):(qm l e c).length<=l.length+1:=by
 have:((qm l e c).map (·.1)).length<=(l.map (·.1)).length+1:=by
  unfold qm;rcases Ej l e ((kZ l e).getD 0+c) with h|⟨_,h⟩
  ·rw[h];omega
  ·rw[h];simp
 simpa using this
theorem vQ:∀ {ms l:List aW},Fits l->Fits ms->Fits (fZ l ms)
 | [],_,h,_=>h
 | p::ms,l,h,hm=>vQ (ms:=ms) (SX h (hm p (List.mem_cons_self ..)) p.2) (fun q hq=>hm q (List.mem_cons_of_mem _ hq))
theorem KX {T:Nat}:∀ {ms l:List aW} {S:Nat},Bd S l->Bd T ms->Bd (S+ms.length*(T+1)) (fZ l ms)
 | [],_,_,h,_=>h.mono (by simp)
 | p::ms,l,S,h,hm=>by
  have:=KX (ms:=ms) (aaH h p.1 (hm p (List.mem_cons_self ..))) (fun q hq=>hm q (List.mem_cons_of_mem _ hq));rw[xO];refine this.mono ?_;rw[List.length_cons,Nat.add_mul];omega
theorem uG:∀ {ms l:List aW},(fZ l ms).length<=l.length+ms.length
 | [],_=>by simp[fZ]
 | p::ms,l=>by
  have h1:=uG (ms:=ms) (l:=qm l p.1 p.2);have h2:=KW l p.1 p.2;rw[xO,List.length_cons];omega
structure PV (S:Nat)(l:List aW):Prop where
 KY:Za l
 nz:Nz l
 fits:Fits l
 bd:Bd S l
theorem PV.mono {S T:Nat}{l:List aW}(h:PV S l)(hST:S<=T):PV T l:=⟨h.KY,h.nz,h.fits,h.bd.mono hST⟩
theorem PV.nil (S:Nat):PV S []:=⟨List.Pairwise.nil,fun _ hp=>(by cases hp),fun _ hp=>(by cases hp),fun _ hp=>(by cases hp)⟩
theorem PV.ext {S T:Nat}{l m:List aW}(h:PV S l)(k:PV T m)(e:∀ e,tot l e=tot m e):l=m:=M8 h.KY k.KY h.nz k.nz e
theorem Io:∀ (n:Nat) (l:List Nat),l.Nodup->(∀ x ∈ l,x<n)->l.length<=n
 | 0,l,_,h=>by
  cases l with
  | nil=>simp
  | cons x r=>exact absurd (h x (List.mem_cons_self ..)) (by omega)
 | n+1,l,hn,h=>by
  have h1:=Io n (l.erase n) (hn.erase n) (fun x hx=>by
   have h2:=h x (List.mem_of_mem_erase hx);have h3:x≠n:=fun e=>by subst e;exact(List.Nodup.mem_erase_iff hn).1 hx |>.1 rfl
   omega)
  have h2:=List.length_erase_of_mem (a:=n) (l:=l)
  by_cases hm:n ∈ l
  ·have:=h2 hm;omega
  ·rw[List.erase_of_not_mem hm]at h1;omega
theorem eQ {e:fE}(h:bP e=true):0<=e.1/\e.1<=5/\0<=e.2.1/\e.2.1<=5/\0<=e.2.2/\e.2.2<=5/\e.1+e.2.1+e.2.2<=5:=by
 unfold bP kJ at h;simp at h;omega
theorem SY {e:fE}:bP e=true↔0<=e.1/\0<=e.2.1/\0<=e.2.2/\e.1+e.2.1+e.2.2<=5:=by
 unfold bP kJ;simp;omega
theorem S9 {e:fE}(h:bP e=true):FI e<=5:=by
 have h':=eQ h;unfold bP at h;simp only[Bool.and_eq_true]at h;rw[uw h.1.1.1 h.1.1.2 h.1.2];omega
theorem yO {l:List aW}(hk:Keys l)(hf:Fits l):l.length<=216:=by
 have h1:(l.map fun p=>(36*p.1.1+6*p.1.2.1+p.1.2.2).toNat).Nodup:=by
  unfold Keys at hk;rw[List.nodup_iff_pairwise_ne,List.pairwise_map]at hk ⊢;refine(List.Pairwise.and_mem.1 hk).imp ?_;rintro a b ⟨ha,hb,hne⟩ he;apply hne;have h2:=eQ (hf a ha);have h3:=eQ (hf b hb);have:a.1.1=b.1.1/\a.1.2.1=b.1.2.1/\a.1.2.2=b.1.2.2:=by omega
  obtain⟨⟨x,y,z⟩,q⟩:=a;obtain⟨⟨x',y',z'⟩,q'⟩:=b;simp only at this;obtain⟨rfl,rfl,rfl⟩:=this;rfl
 have h2:=Io 216 _ h1 (fun x hx=>by
  obtain⟨p,hp,rfl⟩:=List.mem_map.1 hx;have:=eQ (hf p hp);omega)
 simpa using h2
theorem PV.length {S:Nat}{l:List aW}(h:PV S l):l.length<=216:=yO (iV h.KY) h.fits
def fQ (a b:List aW):List aW:=canon (fZ [] (a++b))
theorem keys_nil:Keys []:=List.nodup_nil
theorem jB (a b:List aW)(e:fE):tot (fQ a b) e=tot a e+tot b e:=by
 unfold fQ;rw[xN,vO keys_nil,jb];simp only[tot];grind
end Fi.S
namespace Fi.S
open Go Fi
set_option maxHeartbeats 8000000
def Xl:aH:=f207.body.r.r.l.r.bl.lp
def M9:aH:=f207.body.r.r.r.r.l.r.bl.lp
def Zb:D:=.a [.v (.int .i64 0),.v (.int .i64 0),.v (.int .i64 0),.v (.bool false),.s 1 [],.s 1 []]
def sH (a b:List D):FV:=.d (.s 1 [.s 6 a,.s 6 b])
def qW (a b:List D)(k acc:Nat)(t:FV):St:=(st0 [sH a b,.u,.d (.v (.int .i64 acc)),.u,.u,.u,sH a b,.d (.v (.int .i64 2)),.d (.v (.int .i64 k)),t,.u,.u,.u,.u,.u] [])
def kM (a b:List D)(k:Nat)(acc:FV)(L:List ae)(t:FV)(dy:Bool:=false):St:={vars:=[.u,.u,.u,.u,acc,.u,.u,.u,.u,.u,.u,sH a b,.d (.v (.int .i64 2)),.d (.v (.int .i64 k)),t],base:=[],loc:=L,aP:=dy}
theorem w1':ah .i64 1=1:=wrap_i64 (by omega)
theorem w2':ah .i64 2=2:=wrap_i64 (by omega)
theorem adI (a b:List D)(h:a.length<=1000000):Ex E0 Xl (qW a b 0 0 .u) (.norm,qW a b 1 a.length .u):=by
 have w:ah .i64 (a.length:Int)=a.length:=wrap_i64 (by omega);have h0:¬ ((a.length:Int)<0):=by omega
 refine Ex.of (n:=60) ?_;unfold qW sH;simp -implicitDefEqProofs[Xl,f207,w,h0,w1']
theorem adJ (a b:List D)(h:a.length<=1000000)(h':b.length<=1000000):Ex E0 Xl (qW a b 1 a.length .u) (.norm,qW a b 2 (a.length+b.length) .u):=by
 have w:ah .i64 ((a.length:Int)+(b.length:Int))=(a.length:Int)+(b.length:Int):=wrap_i64 (by omega);have h0:¬ ((a.length:Int)+(b.length:Int)<0):=by omega
 refine Ex.of (n:=60) ?_;unfold qW sH;simp only[Int.natCast_add];simp -implicitDefEqProofs[Xl,f207,w,h0,w2']
theorem adK (a b:List D)(n:Nat):Ex E0 Xl (qW a b 2 n .u) (.exit 0,qW a b 2 n (.d (.v (.bool false)))):=by
 refine Ex.of (n:=60) ?_;unfold qW sH;simp -implicitDefEqProofs[Xl,f207]
theorem Xm (a b:List D)(h:a.length<=1000000)(h':b.length<=1000000):Ex E0 (.loop Xl) (qW a b 0 0 .u) (.exit 0,qW a b 2 (a.length+b.length) (.d (.v (.bool false)))) :=
 (adI a b h).next ((adJ a b h h').next ((adK a b _).leave (by simp)))
theorem Zc (a b:List D)(acc:FV)(L:List ae)(dy:Bool):Ex E0 M9 (kM a b 2 acc L .u dy) (.exit 2,kM a b 2 acc L (.d (.v (.bool false))) dy):=by
 refine Ex.of (n:=60) ?_;unfold kM sH;simp -implicitDefEqProofs[M9,f207]
theorem M_ (a b:List D)(k:Nat)(hk:k<2)(ha:a=[])(hb:b=[]):Ex E0 M9 (kM a b k (.d (.n 6)) [] .u) (.norm,kM a b (k+1) (.d (.n 6)) [] .u):=by
 subst ha hb;refine Ex.of (n:=60) ?_;unfold kM sH
 match k,hk with
 | 0,_=>simp -implicitDefEqProofs[M9,f207,w1',most]
 | 1,_=>simp -implicitDefEqProofs[M9,f207,w2',most]
theorem adM (a b R:List D)(h:a.length<=1000000):Ex E0 M9 (kM a b 0 (.ls (.loc 0) 0 6 0 0) [.row 0 6 R] .u) (.norm,kM a b 1 (.ls (.loc 0) 1 6 0 a.length) [.row 1 6 a] .u):=by
 have h1:a.length*80<=most:=by unfold most;omega
 have h2:a.length<=most:=by unfold most;omega
 refine Ex.of (n:=60) ?_;unfold kM sH;simp -implicitDefEqProofs[M9,f207,w1',h1,h2]
theorem adN (a b:List D)(h:a.length<=1000000)(h':b.length<=1000000):Ex E0 M9 (kM a b 1 (.ls (.loc 0) 1 6 0 a.length) [.row 1 6 a] .u) (.norm,kM a b 2 (.ls (.loc 0) 2 6 0 (a.length+b.length)) [.row 2 6 (a++b)] .u):=by
 have h1:(a.length+b.length)*80<=most:=by unfold most;omega
 have h2:a.length+b.length<=most:=by unfold most;omega
 refine Ex.of (n:=60) ?_;unfold kM sH;simp -implicitDefEqProofs[M9,f207,w2',h1,h2]
theorem S_ (n m:Nat)(h0:0<n)(h:n<=2000000):CL E0 (m+100) 258 [.d (.n 6),.d (.v (.int .i64 n))] []=some (.ls (.old 0) 0 6 0 0,some [.row 0 6 (List.replicate n Zb)]):=by
 have w0:ah .i64 0=0:=wrap_i64 (by omega);have wn:ah .i64 (n:Int)=n:=wrap_i64 (by omega);have g0:¬ ((n:Int)<0):=by omega
 have g1:(0:Int)<n:=by omega
 have h1:(n:Int)*80<=most:=by unfold most;omega
 have h2:(n:Int)<=most:=by unfold most;omega
 rw[ak rfl (k258:E0.fn _=_) rfl];simp -implicitDefEqProofs[f258,FV.av,ae.av,jo,Du,w0,wn,g0,g1,h1,h2,Zb,h0]
theorem OZ (a b:List D)(ha:a.length<=1000000)(hb:b.length<=1000000):∃ o,Ca E0 207 [sH a b] (.d (.s 6 (a++b)),o)/\(o=none\/∃ x,o=some [x]):=by
 have w0:ah .i64 0=0:=wrap_i64 (by omega);have hA:Ex E0 f207.body.l (st0 [sH a b,.u,.u,.u,.u,.u,.u,.u,.u,.u,.u,.u,.u,.u,.u] []) (.norm,(st0 [sH a b,.u,.u,.u,.u,.u,.u,.u,.u,.u,.u,.u,.u,.u,.u] [])):=by
  refine Ex.of (n:=60) ?_;unfold sH;simp -implicitDefEqProofs[f207]
 have hB:Ex E0 f207.body.r.l (st0 [sH a b,.u,.u,.u,.u,.u,.u,.u,.u,.u,.u,.u,.u,.u,.u] []) (.norm,(st0 [sH a b,.u,.d (.v (.int .i64 0)),.u,.u,.u,.u,.u,.u,.u,.u,.u,.u,.u,.u] [])):=by
  refine Ex.of (n:=60) ?_;unfold sH;simp -implicitDefEqProofs[f207]
 have hC:Ex E0 f207.body.r.r.l.l (st0 [sH a b,.u,.d (.v (.int .i64 0)),.u,.u,.u,.u,.u,.u,.u,.u,.u,.u,.u,.u] []) (.norm,qW a b 0 0 .u):=by
  refine Ex.of (n:=60) ?_;unfold sH qW sH;simp -implicitDefEqProofs[f207]
 have hL:=Xm a b ha hb;have hN:∃ acc L,Ex E0 (.loop M9) (kM a b 0 acc L .u) (.exit 2,kM a b 2 acc L .u)\/True:=⟨.u,[],.inr trivial⟩
 clear hN
 by_cases hn:a.length+b.length=0
 ·obtain rfl:a=[]:=List.eq_nil_of_length_eq_zero (by omega);obtain rfl:b=[]:=List.eq_nil_of_length_eq_zero (by omega);have hD:Ex E0 f207.body.r.r.r.l (qW [] [] 2 (0+0) (.d (.v (.bool false)))) (.norm,(st0 [sH [] [],.u,.u,.u,.d (.n 6),.u,.u,.u,.u,.u,.u,.u,.u,.u,.u] [])):=by
   have t:∀ m,CL E0 (m+100) 258 [.d (.n 6),.d (.v (.int .i64 0))] []=some (.d (.n 6),none):=by
    intro m;rw[ak rfl (k258:E0.fn _=_) rfl];simp -implicitDefEqProofs[f258,w0]
   refine Ex.of (n:=200) ?_;unfold qW sH;simp -implicitDefEqProofs[f207,t,FV.aO,FV.av,ae.av]
  have hE:Ex E0 f207.body.r.r.r.r.l.l (st0 [sH [] [],.u,.u,.u,.d (.n 6),.u,.u,.u,.u,.u,.u,.u,.u,.u,.u] []) (.norm,kM [] [] 0 (.d (.n 6)) [] .u):=by
   refine Ex.of (n:=60) ?_;unfold sH kM sH;simp -implicitDefEqProofs[f207]
  have hF:Ex E0 f207.body.r.r.r.r.r (kM [] [] 2 (.d (.n 6)) [] (.d (.v (.bool false)))) (.ret,(st0 [.u,.d (.n 6),.u,.u,.u,.u,.u,.u,.u,.u,.u,.u,.u,.u,.u] [])):=by
   refine Ex.of (n:=60) ?_;unfold kM sH;simp -implicitDefEqProofs[f207]
  have hM:Ex E0 (.loop M9) (kM [] [] 0 (.d (.n 6)) [] .u) (.exit 2,kM [] [] 2 (.d (.n 6)) [] (.d (.v (.bool false)))) :=
   (M_ [] [] 0 (by omega) rfl rfl).next ((M_ [] [] 1 (by omega) rfl rfl).next ((Zc [] [] _ _ _).leave (by simp)))
  refine⟨none,Ca.body (o:=.ret) rfl (k207:E0.fn _=_) rfl ?_ (by intro id h;cases h) (st1:=(st0 [.u,.d (.n 6),.u,.u,.u,.u,.u,.u,.u,.u,.u,.u,.u,.u,.u] [])) ?_,.inl rfl⟩
  ·show Ex E0 (.seq f207.body.l (.seq f207.body.r.l (.seq (.seq f207.body.r.r.l.l (.block 0 (.loop Xl))) (.seq f207.body.r.r.r.l (.seq (.seq f207.body.r.r.r.r.l.l (.block 2 (.loop M9))) f207.body.r.r.r.r.r))))) _ _;exact hA.seq (hB.seq ((hC.seq hL.block).seq (hD.seq ((hE.seq hM.block).seq hF))))
  ·simp -implicitDefEqProofs[f207]
 ·have hD:Ex E0 f207.body.r.r.r.l (qW a b 2 (a.length+b.length) (.d (.v (.bool false)))) (.norm,(st0 [sH a b,.u,.u,.u,.ls (.loc 0) 0 6 0 0,.u,.u,.u,.u,.u,.u,.u,.u,.u,.u] [.row 0 6 (List.replicate (a.length+b.length) Zb)])):=by
   have t:=fun m=>S_ (a.length+b.length) m (by omega) (by omega)
   refine Ex.of (n:=200) ?_;unfold qW sH;generalize a.length+b.length=n at*;generalize List.replicate n Zb=R at*;simp -implicitDefEqProofs[f207,t,FV.aO,FV.av,ae.av]
  have hE:Ex E0 f207.body.r.r.r.r.l.l (st0 [sH a b,.u,.u,.u,.ls (.loc 0) 0 6 0 0,.u,.u,.u,.u,.u,.u,.u,.u,.u,.u] [.row 0 6 (List.replicate (a.length+b.length) Zb)]) (.norm,kM a b 0 (.ls (.loc 0) 0 6 0 0) [.row 0 6 (List.replicate (a.length+b.length) Zb)] .u):=by
   refine Ex.of (n:=60) ?_;unfold sH kM sH;generalize List.replicate (a.length+b.length) Zb=R at*;simp -implicitDefEqProofs[f207]
  have hF:Ex E0 f207.body.r.r.r.r.r (kM a b 2 (.ls (.loc 0) 2 6 0 (a.length+b.length)) [.row 2 6 (a++b)] (.d (.v (.bool false)))) (.ret,(st0 [.u,.ls (.loc 0) 2 6 0 (a.length+b.length),.u,.u,.u,.u,.u,.u,.u,.u,.u,.u,.u,.u,.u] ([.row 2 6 (a++b)]))):=by
   refine Ex.of (n:=60) ?_;unfold kM sH;simp -implicitDefEqProofs[f207]
  have hM:Ex E0 (.loop M9) (kM a b 0 (.ls (.loc 0) 0 6 0 0) [.row 0 6 (List.replicate (a.length+b.length) Zb)] .u) (.exit 2,kM a b 2 (.ls (.loc 0) 2 6 0 (a.length+b.length)) [.row 2 6 (a++b)] (.d (.v (.bool false)))) :=
   (adM a b _ ha).next ((adN a b ha hb).next ((Zc a b _ _ _).leave (by simp)))
  refine⟨none,Ca.body (o:=.ret) rfl (k207:E0.fn _=_) rfl ?_ (by intro id h;cases h) (st1:=(st0 [.u,.ls (.loc 0) 2 6 0 (a.length+b.length),.u,.u,.u,.u,.u,.u,.u,.u,.u,.u,.u,.u,.u] ([.row 2 6 (a++b)]))) ?_,.inl rfl⟩
  ·show Ex E0 (.seq f207.body.l (.seq f207.body.r.l (.seq (.seq f207.body.r.r.l.l (.block 0 (.loop Xl))) (.seq f207.body.r.r.r.l (.seq (.seq f207.body.r.r.r.r.l.l (.block 2 (.loop M9))) f207.body.r.r.r.r.r))))) _ _;exact hA.seq (hB.seq ((hC.seq hL.block).seq (hD.seq ((hE.seq hM.block).seq hF))))
  ·have e1:ae.view 2 6 0 (a.length+b.length) (.row 2 6 (a++b))=some (a++b):=by
    have:List.take (a.length+b.length) (a++b)=a++b:=by rw[<-List.length_append,List.take_length]
    simp[ae.view,this]
   clear hA hB hC hL hD hE hF hM hn;simp -implicitDefEqProofs[f207,e1,FV.av,ae.av]
def aR (l:List aW):D:=.s 6 (l.map fun p=>qC p.1 p.2)
def tX (p:aW):Mo:=⟨p.1,qs p.2,qn p.2,qd p.2⟩
theorem FL (l:List aW):aR l=PD (l.map tX):=by
 unfold aR PD;rw[List.map_map];rfl
theorem Ta {l:List aW}:nP l=aR (canon l):=by
 unfold nP aR canon;have h1:l.flatMap dZ=(l.filter fun p=>decide (p.2≠0)).map fun p=>qC p.1 p.2:=by
  induction l with
  | nil=>rfl
  | cons p r ih =>
   by_cases hp:p.2=0
   ·rw[List.filter_cons_of_neg (by simpa using hp)];simp[List.flatMap_cons,dZ,hp,ih]
   ·rw[List.filter_cons_of_pos (by simpa using hp)];simp[List.flatMap_cons,dZ,hp,ih]
 rw[h1,<-List.map_mergeSort (r:=fun a b => !kK b.1 a.1)];intro a _ b _;rfl
theorem Xn {S:Nat}{l:List aW}(h:Bd S l){e:fE}{y:Rat}(hy:kZ l e=some y):qz y<=S:=h _ (Bp hy)
def paL:aH:=f155.body.r.r.l.r.bl.lp
def O0 (es:List D)(k:Nat)(L:List ae)(t:FV):St:=(st0 [.u,.u,.u,.m (.loc 0),.u,.d (.s 6 es),.d (.v (.int .i64 es.length)),.d (.v (.int .i64 k)),t] L)
theorem Tc (es:List D)(k:Nat)(L:List ae)(l:List aW)(p:aW)(hn:es.length<=1000000)(hk:es[k]?=some (qC p.1 p.2))(hL:L[0]?=some (.map (l.map iM)))(hp:qz p.2<=50000)(hl:Bd 50000 l)(hf:bP p.1=true) :
  ∃ L',Ex E1 paL (O0 es k L .u) (.norm,O0 es (k+1) L' .u)/\L'[0]?=some (.map ((qm l p.1 p.2).map iM)):=by
 obtain⟨e,x⟩:=p;have hkl:k<es.length:=(bH hk)
 have hB:(List.map (ae.av 0) (L++[ae.box [.d (.v (.int .i64 e.1)),.d (.v (.int .i64 e.2.1)),.d (.v (.int .i64 e.2.2)),.d (.v (.bool (qs x))),.d (LD (qn x)),.d (LD (qd x))]]))[0]?=some (.map (l.map iM)):=by
  cases L with
  | nil=>cases hL
  | cons o r=>simp only[List.getElem?_cons_zero,Option.some.injEq]at hL;subst hL;rfl
 obtain⟨N,B',t,hlen,hB'⟩:=Ij _ 0 l hB e x hp (fun y hy=>Xn hl hy) (S9 hf);refine⟨B',Ex.of (n:=N+200) ?_,hB'⟩;have bD:ah .i64 ((k:Int)+1)=(k:Int)+1:=wrap_i64 (by omega);have hk1:((k+1:Nat):Int)=(k:Int)+1:=by omega
 have hk0:(0:Int)<=(k:Int):=by omega
 have hkc:(k:Int)<(es.length:Int):=by omega
 clear hB hB' hlen hp hl hf;obtain⟨a,b,c⟩:=e;unfold O0;rw[hk1];simp only[qC,zC,lq,qD,raw]at*;generalize qs x=s at*;simp only[LD]at*;generalize LL (qn x)=ns,LL (qd x)=ds at*;have i1:=idx hk;simp only[List.map_append,List.map_cons,List.map_nil,ae.av,FV.aO,FV.av]at t;simp -implicitDefEqProofs[paL,f155,bD,hk0,hkc,hk,i1,t,FV.av,FV.aO,ae.av]
theorem Td {ms:List aW}{k:Nat}{p:aW}(h:ms[k]?=some p):fZ [] (ms.take (k+1))=qm (fZ [] (ms.take k)) p.1 p.2:=by
 rw[List.take_add_one,h];show fZ [] (ms.take k++[p])=_;rw[Im];rfl
theorem Xo (ms:List aW)(L:List ae)(S:Nat)(hn:ms.length<=1000000)(hL:L[0]?=some (.map []))(hf:Fits ms)(hb:Bd S ms)(hS:S<=50000)(hm:ms.length*(S+1)<=50000) :
  ∃ L',Ex E1 (.loop paL) (O0 (ms.map fun p=>qC p.1 p.2) 0 L .u) (.exit 0,O0 (ms.map fun p=>qC p.1 p.2) ms.length L' (.d (.v (.bool false))))/\L'[0]?=some (.map ((fZ [] ms).map iM)):=by
 have hlen:(ms.map fun p=>qC p.1 p.2).length=ms.length:=by simp
 obtain⟨r,h1,L',h2,h3⟩:=Ex.inv (E:=E1) (b:=paL) (α:=Nat × List ae) (S:=fun a=>O0 (ms.map fun p=>qC p.1 p.2) a.1 a.2 .u) (fun a=>ms.length-a.1)
  (fun a=>a.1<=ms.length/\a.2[0]?=some (.map ((fZ [] (ms.take a.1)).map iM))) (fun r=>∃ L',r=(.exit 0,O0 (ms.map fun p=>qC p.1 p.2) ms.length L' (.d (.v (.bool false))))/\L'[0]?=some (.map ((fZ [] ms).map iM))) (by
   rintro⟨k,L⟩ ⟨q1,q2⟩;simp only at q1 q2
   by_cases hk:k<ms.length
   ·have hp:ms[k]?=some ms[k]:=List.getElem?_eq_getElem hk;have hpm:ms[k] ∈ ms:=List.getElem_mem hk;have hp2:(ms.map fun p=>qC p.1 p.2)[k]?=some (qC ms[k].1 ms[k].2):=by rw[List.getElem?_map,hp];rfl
    have hbd:Bd 50000 (fZ [] (ms.take k)):=by
     refine(KX (S:=0) (T:=S) (fun p hp=>by cases hp) (fun p hp=>hb p (List.mem_of_mem_take hp))).mono ?_;rw[List.length_take,Nat.zero_add];exact Nat.le_trans (Nat.mul_le_mul_right _ (Nat.min_le_right _ _)) hm
    obtain⟨L',g1,g2⟩:=Tc _ k L _ ms[k] (by rw[hlen];exact hn) hp2 q2 (Nat.le_trans (hb _ hpm) hS) hbd (hf _ hpm);refine .inl ⟨(k+1,L'),g1,by show ms.length-(k+1)<ms.length-k;omega,by show k+1<=_;omega,?_⟩;show L'[0]?=some (.map ((fZ [] (ms.take (k+1))).map iM));rw[Td hp];exact g2
   ·obtain rfl:k=ms.length:=by omega
    rw[List.take_length]at q2;refine .inr ⟨_,Ex.of (n:=60) ?_,?_,L,rfl,q2⟩
    ·simp only[O0,hlen];generalize (ms.map fun p=>qC p.1 p.2)=es,ms.length=n at*;simp -implicitDefEqProofs[paL,f155]
    ·simp) (0,L) ⟨Nat.zero_le _,hL⟩
 subst h2;exact⟨L',h1,h3⟩
theorem zX {S:Nat}:∀ {l:List aW} {q:Option Mo},PV S l->(∀ m,q=some m->∀ p ∈ l,kK m.e p.1=true)->yK q (l.map tX)=true
 | [],_,_,_=>by simp[yK]
 | p::l,q,h,hq=>by
  have hs:=List.pairwise_cons.1 h.KY;have hfit:(tX p).fits=true:=by
   unfold Mo.fits tX;have h1:=h.fits p (List.mem_cons_self ..);have h2:qn p.2≠[]:=by
    have h3:=h.nz p (List.mem_cons_self ..);intro h4;have h5:p.2.num.natAbs=0:=by
     have:=aT (p.2.num.natAbs);unfold qn at h4;rw[h4]at this;simpa[val] using this.symm
    exact h3 (Rat.num_eq_zero.1 (Int.natAbs_eq_zero.1 h5))
   simp[h1,h2,rY]
  have hr:yK (some (tX p)) (l.map tX)=true:=zX (S:=S) ⟨hs.2,fun x hx=>h.nz x (List.mem_cons_of_mem _ hx),fun x hx=>h.fits x (List.mem_cons_of_mem _ hx),fun x hx=>h.bd x (List.mem_cons_of_mem _ hx)⟩ (fun m hm x hx=>by cases hm;exact hs.1 x hx);cases q with
  | none=>simp only[List.map_cons,yK,hfit,hr,Bool.and_self]
  | some m =>
   have h6:iT m.e (tX p).e<0:=of_decide_eq_true (hq m rfl p (List.mem_cons_self ..));simp only[List.map_cons,yK,hfit,hr,decide_eq_true h6,Bool.and_self]
theorem Te {S:Nat}{l:List aW}(h:PV S l)(hS:S<=1000):Po (l.map tX):=by
 refine⟨fun m hm => ?_,by have:=h.length;simp;omega⟩;obtain⟨p,hp,rfl⟩:=List.mem_map.1 hm;have hb:=h.bd p hp;have h1:(qn p.2).length<=qz p.2:=Nat.le_max_left _ _;have h2:(qd p.2).length<=qz p.2:=by
  unfold qd;split
  ·simp
  ·exact Nat.le_max_right _ _
 exact⟨Fx _,Fy _,Nat.le_trans h1 (Nat.le_trans hb hS),Nat.le_trans h2 (Nat.le_trans hb hS)⟩
theorem En {S:Nat}{l:List aW}(h:PV S l)(hS:S<=1000):Ca E1 208 [.d (aR l)] (.d (aR l),none):=by
 have h1:=Ed _ (Te h hS);rw[zX h (fun m hm=>by cases hm),<-FL]at h1;obtain⟨N,t⟩:=(Ca.fG h1).get;refine Ca.bO (n:=N+60) ?_;rw[ak rfl (k208:E1.fn _=_) rfl];unfold aR at*;generalize (l.map fun p=>qC p.1 p.2)=es at*;simp -implicitDefEqProofs[f208,t]
theorem KZ {S:Nat}{ms:List aW}(hf:Fits ms)(hb:Bd S ms)(hm:ms.length*(S+1)<=50000):uD (fZ [] ms)=true:=by
 have hk:Keys (fZ [] ms):=vM keys_nil;have hF:Fits (fZ [] ms):=vQ (fun p hp=>by cases hp) hf;have hB:Bd (0+ms.length*(S+1)) (fZ [] ms):=KX (fun p hp=>by cases hp) hb;have hl:=yO hk hF;unfold uD;simp only[Bool.and_eq_true,decide_eq_true_eq,List.all_eq_true];exact⟨⟨hk,fun p hp=>by have:=hB p hp;omega⟩,by omega⟩
theorem O1 {S:Nat}{L:List ae}{ms:List aW}(hL:L[0]?=some (.map ((fZ [] ms).map iM)))(hf:Fits ms)(hb:Bd S ms)(hm:ms.length*(S+1)<=50000)(m:Nat) :
  CL E1 m 206 [.m (.old 0)] (List.map (ae.av 0) L)=some (.d (aR (canon (fZ [] ms))),none):=by
 have hB:(List.map (ae.av 0) L)[0]?=some (.map ((fZ [] ms).map iM)):=by rw[List.getElem?_map,hL];rfl
 rw[Ei m 0 _ _ hB (KZ hf hb hm),Ta]
theorem Xp {S:Nat}{a b:List aW}(ha:PV S a)(hb:PV S b)(hS:S<=1000)(hm:(a++b).length*(S+1)<=50000):Ca E1 155 [.d (aR a),.d (aR b)] (.d (aR (fQ a b)),none):=by
 have hf:Fits (a++b):=fun p hp=>by
  rcases List.mem_append.1 hp with hp|hp
  ·exact ha.fits p hp
  ·exact hb.fits p hp
 have hB:Bd S (a++b):=fun p hp=>by
  rcases List.mem_append.1 hp with hp|hp
  ·exact ha.bd p hp
  ·exact hb.bd p hp
 have la:=ha.length;have lb:=hb.length;have hlen:(a++b).length<=1000000:=by rw[List.length_append];omega
 obtain⟨N1,t1⟩:=(En ha hS).any;obtain⟨N2,t2⟩:=(En hb hS).any;obtain⟨o,hc,ho⟩:=OZ (a.map fun p=>qC p.1 p.2) (b.map fun p=>qC p.1 p.2) (by simp;omega) (by simp;omega);obtain⟨N3,t3⟩:=(Ca.fG hc).any;obtain⟨M,hM⟩:∃ M,M=N1+N2+N3:=⟨_,rfl⟩
 replace t1:=t1 M (by omega);replace t2:=t2 M (by omega);replace t3:=t3 M (by omega);have e1:(a.map fun p=>qC p.1 p.2)++(b.map fun p=>qC p.1 p.2)=(a++b).map fun p=>qC p.1 p.2:=by simp
 rw[e1]at t3;have hAB:Ex E1 f155.body.l (st0 [.d (aR a),.d (aR b),.u,.u,.u,.u,.u,.u,.u] []) (.norm,(st0 [.d (aR a),.d (aR b),.u,.u,.u,.u,.u,.u,.u] [])):=by
  refine Ex.of (n:=60) ?_;generalize aR a=x1;generalize aR b=x2;simp -implicitDefEqProofs[f155]
 have hMk:Ex E1 f155.body.r.l (st0 [.d (aR a),.d (aR b),.u,.u,.u,.u,.u,.u,.u] []) (.norm,(st0 [.d (aR a),.d (aR b),.u,.m (.loc 0),.u,.u,.u,.u,.u] [.map []])):=by
  refine Ex.of (n:=60) ?_;generalize aR a=x1;generalize aR b=x2;simp -implicitDefEqProofs[f155]
 have hC:∃ L,L[0]?=some (.map [])/\Ex E1 f155.body.r.r.l.l (st0 [.d (aR a),.d (aR b),.u,.m (.loc 0),.u,.u,.u,.u,.u] [.map []]) (.norm,O0 ((a++b).map fun p=>qC p.1 p.2) 0 L .u):=by
  rcases ho with rfl|⟨x,rfl⟩
  ·refine⟨[.map []],rfl,Ex.of (n:=M+100) ?_⟩;unfold aR O0 sH at*;generalize ((a++b).map fun p=>qC p.1 p.2)=es,(a.map fun p=>qC p.1 p.2)=es1,(b.map fun p=>qC p.1 p.2)=es2 at*;simp -implicitDefEqProofs[f155,t1,t2,t3]
  ·refine⟨[.map [],ae.shift 1 x],rfl,Ex.of (n:=M+100) ?_⟩;unfold aR O0 sH at*;generalize ((a++b).map fun p=>qC p.1 p.2)=es,(a.map fun p=>qC p.1 p.2)=es1,(b.map fun p=>qC p.1 p.2)=es2 at*;simp -implicitDefEqProofs[f155,t1,t2,t3]
 obtain⟨L,hL,hC⟩:=hC;obtain⟨L',hl,hL'⟩:=Xo (a++b) L S hlen hL hf hB (by omega) hm;have t4:=fun m=>O1 hL' hf hB hm m
 have Na:aR (canon (fZ [] (a++b)))=aR (fQ a b):=rfl;rw[Na]at t4;have hD:Ex E1 f155.body.r.r.r (O0 ((a++b).map fun p=>qC p.1 p.2) (a++b).length L' (.d (.v (.bool false)))) (.ret,(st0 [.u,.u,.d (aR (fQ a b)),.u,.u,.u,.u,.u,.u] (L'))):=by
  refine Ex.of (n:=100) ?_;unfold aR O0 at*;generalize ((a++b).map fun p=>qC p.1 p.2)=es,((fQ a b).map fun p=>qC p.1 p.2)=es1 at*;simp -implicitDefEqProofs[f155,t4,FV.av,FV.aO]
 refine Ca.body (o:=.ret) (st1:=(st0 [.u,.u,.d (aR (fQ a b)),.u,.u,.u,.u,.u,.u] (L'))) rfl (k155:E1.fn _=_) rfl ?_ (by intro id h;cases h) ?_
 ·show Ex E1 (.seq f155.body.l (.seq f155.body.r.l (.seq (.seq f155.body.r.r.l.l (.block 0 (.loop paL))) f155.body.r.r.r))) _ _;exact hAB.seq (hMk.seq ((hC.seq hl.block).seq hD))
 ·unfold aR;generalize ((fQ a b).map fun p=>qC p.1 p.2)=es1 at*;simp -implicitDefEqProofs[f155]
def mO (p:aW):ae:=.box [.d (.v (.int .i64 p.1.1)),.d (.v (.int .i64 p.1.2.1)),.d (.v (.int .i64 p.1.2.2)),.d (.v (.bool (qs p.2))),.d (LD (qn p.2)),.d (LD (qd p.2))]
def f_ (a b:fE):fE:=(a.1+b.1,a.2.1+b.2.1,a.2.2+b.2.2)
def qX (p:aW)(b:List aW):List aW:=(b.map fun q=>(f_ p.1 q.1,p.2*q.2)).filter fun x=>bP x.1
def gm (a b:List aW):List aW:=a.flatMap fun p=>qX p b
theorem FM (p:aW)(b:List aW):(qX p b).length<=b.length:=by
 unfold qX;exact Nat.le_trans (List.length_filter_le _ _) (by simp)
theorem K3 (p:aW)(b:List aW):Fits (qX p b):=fun x hx=>(List.mem_filter.1 hx).2
theorem FN (a b:List aW):(gm a b).length<=a.length*b.length:=by
 induction a with
 | nil=>simp[gm]
 | cons p r ih =>
  have h1:gm (p::r) b=qX p b++gm r b:=by simp[gm]
  have h2:=FM p b;rw[h1,List.length_append,List.length_cons,Nat.add_mul];omega
theorem K4 (a b:List aW):Fits (gm a b):=fun x hx=>by
 obtain⟨p,_,hx⟩:=List.mem_flatMap.1 hx;exact K3 p b x hx
def iA (a b:List aW):List aW:=canon (fZ [] (gm a b))
end Fi.S
namespace Fi.S
open Go Fi
theorem sI:∀ {l:List aW},Keys l->∀ {p:aW},p ∈ l->tot l p.1=p.2
 | [],_,_,hp=>by cases hp
 | (a,y)::r,h,p,hp=>by
  unfold Keys at h;simp only[List.map_cons,List.nodup_cons]at h;rcases List.mem_cons.1 hp with h0|hp2
  ·subst h0;have hr:∀ x ∈ r,x.1≠a:=fun x hx he=>h.1 (he ▸ List.mem_map.2 ⟨x,hx,rfl⟩)
   simp only[tot,if_true,kE hr];grind
  ·have h1:¬ a=p.1:=fun he=>h.1 (he ▸ List.mem_map.2 ⟨p,hp2,rfl⟩)
   simp only[tot,if_neg h1,sI h.2 hp2];grind
theorem Bq {S:Nat}(hS:1<=S){l:List aW}(h:Keys l)(hb:Bd S l)(e:fE):qz (tot l e)<=S:=by
 cases hg:kZ l e with
 | none =>
  rw[kE (OY hg)];exact Nat.le_trans jA hS
 | some y =>
  have h1:=Bp hg;have h2:=sI h h1;simp only at h2;rw[h2];exact hb _ h1
theorem Ip {S:Nat}{l:List aW}(hk:Keys l)(hf:Fits l)(hb:∀ e,qz (tot l e)<=S):PV S (canon l):=by
 refine⟨Em hk,SV l,fun p hp=>hf p (El.1 hp).1,fun p hp => ?_⟩;have:=sI (iV (Em hk)) hp;rw[xN]at this;rw[<-this];exact hb _
theorem vR (l:List aW):(canon l).length<=l.length:=by
 unfold canon;rw[List.length_mergeSort];exact List.length_filter_le _ _
theorem gp {S T:Nat}(hS:1<=S)(hT:1<=T){a b:List aW}(ha:PV S a)(hb:PV T b):PV (S+T+1) (fQ a b):=by
 refine Ip (vM keys_nil) (vQ (fun p hp=>by cases hp) ?_) fun e => ?_
 ·intro p hp;rcases List.mem_append.1 hp with hp|hp
  ·exact ha.fits p hp
  ·exact hb.fits p hp
 ·have h1:tot (fZ [] (a++b)) e=tot a e+tot b e:=by
   rw[vO keys_nil,jb];simp only[tot];grind
  rw[h1];have h2:=oH (tot a e) (tot b e);have h3:=Bq hS (iV ha.KY) ha.bd e;have h4:=Bq hT (iV hb.KY) hb.bd e;omega
theorem yP (a b:List aW):(fQ a b).length<=a.length+b.length:=by
 have h1:=vR (fZ [] (a++b));have h2:=uG (ms:=a++b) (l:=[]);rw[List.length_append]at h2;show(canon (fZ [] (a++b))).length<=_;simp only[List.length_nil]at h2;omega
theorem yQ (a b:List aW):(iA a b).length<=a.length*b.length:=by
 have h1:=vR (fZ [] (gm a b));have h2:=uG (ms:=gm a b) (l:=[]);have h3:=FN a b;show(canon (fZ [] (gm a b))).length<=_;simp only[List.length_nil]at h2;omega
theorem K5 {p:aW}{b:List aW}(hb:Keys b):Keys (qX p b):=by
 have h1:Keys (b.map fun q=>(f_ p.1 q.1,p.2*q.2)):=by
  unfold Keys at*;rw[List.nodup_iff_pairwise_ne,List.pairwise_map]at hb;rw[List.map_map,List.nodup_iff_pairwise_ne,List.pairwise_map];refine hb.imp ?_;intro x y hne he;apply hne;simp only[Function.comp,f_,Prod.mk.injEq]at he;obtain⟨⟨a,b,c⟩,_⟩:=x;obtain⟨⟨a',b',c'⟩,_⟩:=y;simp only at he;simp only[Prod.mk.injEq];omega
 unfold Keys qX at*;exact List.Nodup.sublist (List.filter_sublist.map _) h1
theorem vS {S T:Nat}(hS:1<=S){b:List aW}(hb:PV T b)(e:fE):∀ {a:List aW},Bd S a->qz (tot (gm a b) e)<=a.length*(S+T+1)+1
 | [],_=>by
  have:=jA;simp only[gm,List.flatMap_nil,tot,List.length_nil];omega
 | p::a,ha=>by
  have h1:gm (p::a) b=qX p b++gm a b:=by simp[gm]
  rw[h1,jb];have h2:=oH (tot (qX p b) e) (tot (gm a b) e);have h3:=vS hS hb e (a:=a) (fun x hx=>ha x (List.mem_cons_of_mem _ hx));have h4:Bd (S+T) (qX p b):=by
   intro x hx;obtain⟨hx,_⟩:=List.mem_filter.1 hx;obtain⟨q,hq,rfl⟩:=List.mem_map.1 hx;have g1:=AL p.2 q.2;have g2:=hb.bd q hq;have g3:=ha p (List.mem_cons_self ..);show qz (p.2*q.2)<=_;omega
  have h5:=Bq (by omega) (K5 (iV hb.KY)) h4 e;rw[List.length_cons,Nat.add_mul];omega
theorem vT (a b:List aW)(e:fE):tot (iA a b) e=tot (gm a b) e:=by
 unfold iA;rw[xN,vO keys_nil];simp only[tot];grind
theorem gT {S T:Nat}(hS:1<=S){a b:List aW}(ha:PV S a)(hb:PV T b):PV (a.length*(S+T+1)+1) (iA a b):=by
 refine Ip (vM keys_nil) (vQ (fun p hp=>by cases hp) (K4 a b)) fun e => ?_
 have h1:tot (fZ [] (gm a b)) e=tot (gm a b) e:=by
  rw[vO keys_nil];simp only[tot];grind
 rw[h1];exact vS hS hb e ha.bd
end Fi.S
