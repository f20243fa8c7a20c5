import Derived.Test.YtckkhcnfdmlabaaGreatDoorCH
import Derived.Test.YtckkhcnfdmlabaaGreatDoorCF
set_option linter.unusedVariables false
set_option linter.unusedSimpArgs false
noncomputable section
namespace Fi.S
open Go Fi
abbrev iM:Type:=Int × Int × Int
def tot:List bz->iM->Rat
 | [],_=>0
 | (a,y)::r,e=>(if a=e then y else 0)+tot r e
theorem jv (a b:List bz)(e:iM):tot (a++b) e=tot a e+tot b e:=by
 induction a with
 | nil=>simp[tot,Rat.zero_add]
 | cons p r ih=>simp only[List.cons_append,tot,ih];grind
theorem Ui {a b:List bz}(h:a.Perm b)(e:iM):tot a e=tot b e:=by
 induction h with
 | nil=>rfl
 | cons p _ ih=>simp only[tot,ih]
 | swap p q l=>simp only[tot];grind
 | trans _ _ h1 h2=>rw[h1,h2]
theorem mE {l:List bz}{e:iM}(h:∀ p ∈ l,p.1≠e):tot l e=0:=by
 induction l with
 | nil=>rfl
 | cons p r ih =>
  have h1:=h p (List.mem_cons_self ..);have h2:=ih (fun q hq=>h q (List.mem_cons_of_mem _ hq));simp only[tot,if_neg h1,h2];grind
theorem L6 (l:List bz)(e:iM):tot (l.filter fun p=>decide (p.2≠0)) e=tot l e:=by
 induction l with
 | nil=>rfl
 | cons p r ih =>
  obtain⟨a,y⟩:=p
  by_cases hy:y=0
  ·subst hy;rw[List.filter_cons_of_neg (by simp)];simp only[tot,ih]
   by_cases h:a=e<;>simp[h,Rat.zero_add]
  ·rw[List.filter_cons_of_pos (by simpa using hy)];simp only[tot,ih]
theorem PY {l:List bz}{e:iM}(h:l5 l e=none):∀ p ∈ l,p.1≠e:=by
 induction l with
 | nil=>intro p hp;cases hp
 | cons q r ih =>
  intro p hp;unfold l5 at h;split at h
  ·cases h
  ·rename_i hne;rcases List.mem_cons.1 hp with rfl|hp
   ·exact fun he=>hne he.symm
   ·exact ih h p hp
theorem Df {l:List bz}{e:iM}{y:Rat}(h:l5 l e=some y):(e,y) ∈ l:=by
 induction l with
 | nil=>cases h
 | cons q r ih =>
  unfold l5 at h;split at h
  ·rename_i he;cases h;subst he;exact List.mem_cons_self ..
  ·exact List.mem_cons_of_mem _ (ih h)
theorem Uj {l:List bz}{e:iM}{y:Rat}{p:bz}(h:p ∈ vZ l e y):p=(e,y)\/p ∈ l:=by
 induction l with
 | nil=>simp only[vZ,List.mem_singleton]at h;exact .inl h
 | cons q r ih =>
  unfold vZ at h;split at h
  ·rcases List.mem_cons.1 h with rfl|h
   ·exact .inl rfl
   ·exact .inr (List.mem_cons_of_mem _ h)
  ·rcases List.mem_cons.1 h with rfl|h
   ·exact .inr (List.mem_cons_self ..)
   ·rcases ih h with h|h
    ·exact .inl h
    ·exact .inr (List.mem_cons_of_mem _ h)
theorem Fy (l:List bz)(e:iM)(y:Rat):(vZ l e y).map (·.1)=l.map (·.1)\/((∀ p ∈ l,p.1≠e)/\(vZ l e y).map (·.1)=l.map (·.1)++[e]):=by
 induction l with
 | nil=>exact .inr ⟨by simp,rfl⟩
 | cons q r ih =>
  obtain⟨a,x⟩:=q;unfold vZ
  by_cases h:e=a
  ·subst h;left;simp
  ·rw[if_neg h];rcases ih with ih|⟨h1,ih⟩
   ·left;simp only[List.map_cons,ih]
   ·right
    refine⟨fun p hp => ?_,by simp only[List.map_cons,ih,List.cons_append]⟩;rcases List.mem_cons.1 hp with rfl|hp
    ·exact fun he=>h he.symm
    ·exact h1 p hp
def Keys (l:List bz):Prop:=(l.map (·.1)).Nodup
theorem Uk {l:List bz}(h:Keys l)(e:iM)(y:Rat):Keys (vZ l e y):=by
 unfold Keys at*;rcases Fy l e y with h1|⟨h1,h2⟩
 ·rw[h1];exact h
 ·rw[h2,List.nodup_append];refine⟨h,by simp,?_⟩;intro a ha b hb;simp only[List.mem_singleton]at hb;subst hb;obtain⟨p,hp,rfl⟩:=List.mem_map.1 ha;exact h1 p hp
theorem YE {l:List bz}(h:Keys l)(e:iM)(y:Rat)(e':iM):tot (vZ l e y) e'=if e=e' then y else tot l e':=by
 induction l with
 | nil=>simp only[vZ,tot];split<;>grind
 | cons q r ih =>
  obtain⟨a,x⟩:=q;unfold Keys at h ih;simp only[List.map_cons,List.nodup_cons]at h;have hr:∀ p ∈ r,p.1≠a:=fun p hp he=>h.1 (he ▸ List.mem_map.2 ⟨p,hp,rfl⟩)
  unfold vZ
  by_cases he:e=a
  ·subst he;rw[if_pos rfl];simp only[tot]
   by_cases h2:e=e'
   ·subst h2;simp only[if_pos,mE hr];grind
   ·simp only[if_neg h2]
  ·rw[if_neg he];simp only[tot,ih h.2]
   by_cases h2:e=e'
   ·subst h2;have:¬ a=e:=fun h3=>he h3.symm
    simp only[if_neg this,if_true];grind
   ·simp only[if_neg h2]
theorem Ul {l:List bz}(h:Keys l)(e:iM):(l5 l e).getD 0=tot l e:=by
 induction l with
 | nil=>rfl
 | cons q r ih =>
  obtain⟨a,x⟩:=q;unfold Keys at h ih;simp only[List.map_cons,List.nodup_cons]at h;have hr:∀ p ∈ r,p.1≠a:=fun p hp he=>h.1 (he ▸ List.mem_map.2 ⟨p,hp,rfl⟩)
  unfold l5
  by_cases he:e=a
  ·subst he;simp only[if_true,Option.getD_some,tot,mE hr];grind
  ·have h2:¬ a=e:=fun h3=>he h3.symm
   rw[if_neg he];simp only[tot,if_neg h2,ih h.2];grind
theorem Jt {l:List bz}(h:Keys l)(e:iM)(c:Rat):Keys (rO l e c):=Uk h e _
theorem YF {l:List bz}(h:Keys l)(e:iM)(c:Rat)(e':iM):tot (rO l e c) e'=tot l e'+if e=e' then c else 0:=by
 unfold rO;rw[YE h,Ul h]
 by_cases h2:e=e'
 ·subst h2;simp
 ·simp only[if_neg h2];grind
theorem ek (e:iM):ku e e=false:=by
 cases h:ku e e with
 | false=>rfl
 | true=>rw[mD]at h;omega
theorem mX {a b c:iM}(h1:ku a b=true)(h2:ku b c=true):ku a c=true:=by
 rw[mD]at*;omega
def Srt (l:List bz):Prop:=l.Pairwise fun a b=>ku a.1 b.1=true
def Nz (l:List bz):Prop:=∀ p ∈ l,p.2≠0
theorem lF {l:List bz}(h:Srt l):Keys l:=by
 unfold Keys;rw[List.nodup_iff_pairwise_ne,List.pairwise_map];refine h.imp ?_;intro a b hab he;rw[he,ek]at hab;cases hab
theorem NT:∀ {l m:List bz},Srt l->Srt m->Nz l->Nz m->(∀ e,tot l e=tot m e)->l=m
 | [],[],_,_,_,_,_=>rfl
 | [],(b,y)::m,_,hm,_,hn,h=>by
  have h1:=h b;have h2:tot m b=0:=mE fun p hp he=>by
   have:=(List.pairwise_cons.1 hm).1 p hp;rw[he,ek]at this;cases this
  have h3:=hn (b,y) (List.mem_cons_self ..);simp only[tot,if_true,h2]at h1;grind
 | (a,x)::l,[],hl,_,hn,_,h=>by
  have h1:=h a;have h2:tot l a=0:=mE fun p hp he=>by
   have:=(List.pairwise_cons.1 hl).1 p hp;rw[he,ek]at this;cases this
  have h3:=hn (a,x) (List.mem_cons_self ..);simp only[tot,if_true,h2]at h1;grind
 | (a,x)::l,(b,y)::m,hl,hm,hn,hk,h=>by
  have hl':=List.pairwise_cons.1 hl;have hm':=List.pairwise_cons.1 hm;have zl:∀ e,(e=a\/ku e a=true)->tot l e=0:=fun e he=>mE fun p hp hpe=>by
   have h1:=hl'.1 p hp;simp only at h1;rw[hpe]at h1;rcases he with rfl|he
   ·rw[ek]at h1;cases h1
   ·have:=mX h1 he;rw[ek]at this;cases this
  have zm:∀ e,(e=b\/ku e b=true)->tot m e=0:=fun e he=>mE fun p hp hpe=>by
   have h1:=hm'.1 p hp;simp only at h1;rw[hpe]at h1;rcases he with rfl|he
   ·rw[ek]at h1;cases h1
   ·have:=mX h1 he;rw[ek]at this;cases this
  have hx:=hn (a,x) (List.mem_cons_self ..);have hy:=hk (b,y) (List.mem_cons_self ..);have hab:a=b:=by
   cases h1:ku a b with
   | true =>
    have e1:=h a;have hne:¬ b=a:=fun h2=>by rw[h2,ek]at h1;cases h1
    simp only[tot,if_true,if_neg hne,zl a (.inl rfl),zm a (.inr h1)]at e1;grind
   | false =>
    cases h2:ku b a with
    | true =>
     have e1:=h b;have hne:¬ a=b:=fun h3=>by rw[h3,ek]at h2;cases h2
     simp only[tot,if_true,if_neg hne,zm b (.inl rfl),zl b (.inr h2)]at e1;grind
    | false=>exact kG h1 h2
  subst hab;have hxy:x=y:=by
   have e1:=h a;simp only[tot,if_true,zl a (.inl rfl),zm a (.inl rfl)]at e1;grind
  subst hxy;have:l=m:=NT hl'.2 hm'.2 (fun p hp=>hn p (List.mem_cons_of_mem _ hp)) (fun p hp=>hk p (List.mem_cons_of_mem _ hp)) (fun e=>by
   have e1:=h e;simp only[tot]at e1;grind)
  rw[this]
def canon (l:List bz):List bz:=(l.filter fun p=>decide (p.2≠0)).mergeSort fun a b => !ku b.1 a.1
theorem zh (l:List bz)(e:iM):tot (canon l) e=tot l e:=by
 unfold canon;rw[Ui (List.mergeSort_perm _ _),L6]
theorem Fz {l:List bz}{p:bz}:p ∈ canon l↔p ∈ l/\p.2≠0:=by
 unfold canon;rw[(List.mergeSort_perm _ _).mem_iff];simp
theorem Um (l:List bz):Nz (canon l):=fun p hp=>(Fz.1 hp).2
theorem FB {l:List bz}(h:Keys l):Srt (canon l):=by
 have h1:((canon l).map (·.1)).Nodup:=by
  have hp:(canon l).Perm (l.filter fun p=>decide (p.2≠0)):=List.mergeSort_perm _ _;refine((hp.map (·.1)).nodup_iff).2 ?_;exact List.Nodup.sublist (List.filter_sublist.map _) h
 have h2:(canon l).Pairwise fun a b=>(!ku b.1 a.1)=true:=by
  refine List.pairwise_mergeSort (fun a b c hab hbc => ?_) (fun a b => ?_) _
  ·simp only[Bool.not_eq_true',Bool.not_eq_eq_eq_not,Bool.not_true]at*;cases h3:ku c.1 a.1 with
   | false=>rfl
   | true =>
    cases h4:ku b.1 c.1 with
    | true=>have:=mX h4 h3;rw[this]at hab;cases hab
    | false =>
     have:=kG h4 hbc;rw[this]at hab;rw[hab]at h3;cases h3
  ·cases h3:ku b.1 a.1 with
   | false=>rfl
   | true =>
    cases h4:ku a.1 b.1 with
    | false=>rfl
    | true=>have:=mX h3 h4;rw[ek]at this;cases this
 rw[List.nodup_iff_pairwise_ne,List.pairwise_map]at h1;refine(h1.and h2).imp ?_;rintro a b ⟨hne,hle⟩;simp only[Bool.not_eq_true',Bool.not_eq_eq_eq_not,Bool.not_true]at hle;cases h3:ku a.1 b.1 with
 | true=>rfl
 | false=>exact absurd (kG h3 hle) hne
def gu (l ms:List bz):List bz:=ms.foldl (fun s p=>rO s p.1 p.2) l
theorem zi (l:List bz)(p:bz)(ms:List bz):gu l (p::ms)=gu (rO l p.1 p.2) ms:=rfl
theorem Ju (l a b:List bz):gu l (a++b)=gu (gu l a) b:=by simp[gu,List.foldl_append]
theorem xC:∀ {ms l:List bz},Keys l->Keys (gu l ms)
 | [],_,h=>h
 | p::ms,l,h=>xC (ms:=ms) (Jt h p.1 p.2)
theorem xD:∀ {ms l:List bz},Keys l->∀ e,tot (gu l ms) e=tot l e+tot ms e
 | [],l,h,e=>by simp only[gu,List.foldl_nil,tot];grind
 | p::ms,l,h,e=>by
  rw[zi,xD (Jt h p.1 p.2),YF h];simp only[tot];grind
theorem put_mem {l:List bz}{e:iM}{c:Rat}{p:bz}(h:p ∈ rO l e c):p=(e,(l5 l e).getD 0+c)\/p ∈ l:=Uj h
def Fits (l:List bz):Prop:=∀ p ∈ l,bV p.1=true
def Bd (S:Nat)(l:List bz):Prop:=∀ p ∈ l,qz p.2<=S
theorem Bd.mono {S T:Nat}{l:List bz}(h:Bd S l)(hST:S<=T):Bd T l:=fun p hp=>Nat.le_trans (h p hp) hST
theorem Un {l:List bz}(h:Fits l){e:iM}(he:bV e=true)(c:Rat):Fits (rO l e c):=by
 intro p hp;rcases put_mem hp with rfl|hp
 ·exact he
 ·exact h p hp
theorem acb {S:Nat}{l:List bz}(h:Bd S l)(e:iM){c:Rat}{T:Nat}(hc:qz c<=T):Bd (S+T+1) (rO l e c):=by
 intro p hp;rcases put_mem hp with rfl|hp
 ·show qz ((l5 l e).getD 0+c)<=_;cases hg:l5 l e with
  | none =>
   have:(0:Rat)+c=c:=Rat.zero_add c;simp only[Option.getD_none,this];omega
  | some y =>
   have h1:=h _ (Df hg);have h2:=qm y c;simp only[Option.getD_some]at*;omega
 ·have:=h p hp;omega
theorem L8 (l:List bz)(e:iM)(c:Rat):(rO l e c).length<=l.length+1:=by
 have:((rO l e c).map (·.1)).length<=(l.map (·.1)).length+1:=by
  unfold rO;rcases Fy l e ((l5 l e).getD 0+c) with h|⟨_,h⟩
  ·rw[h];omega
  ·rw[h];simp
 simpa using this
theorem xE:∀ {ms l:List bz},Fits l->Fits ms->Fits (gu l ms)
 | [],_,h,_=>h
 | p::ms,l,h,hm=>xE (ms:=ms) (Un h (hm p (List.mem_cons_self ..)) p.2) (fun q hq=>hm q (List.mem_cons_of_mem _ hq))
theorem L9 {T:Nat}:∀ {ms l:List bz} {S:Nat},Bd S l->Bd T ms->Bd (S+ms.length*(T+1)) (gu l ms)
 | [],_,_,h,_=>h.mono (by simp)
 | p::ms,l,S,h,hm=>by
  have:=L9 (ms:=ms) (acb h p.1 (hm p (List.mem_cons_self ..))) (fun q hq=>hm q (List.mem_cons_of_mem _ hq));rw[zi];refine this.mono ?_;rw[List.length_cons,Nat.add_mul];omega
theorem v_:∀ {ms l:List bz},(gu l ms).length<=l.length+ms.length
 | [],_=>by simp[gu]
 | p::ms,l=>by
  have h1:=v_ (ms:=ms) (l:=rO l p.1 p.2);have h2:=L8 l p.1 p.2;rw[zi,List.length_cons];omega
structure PV (S:Nat)(l:List bz):Prop where
 PZ:Srt l
 nz:Nz l
 fits:Fits l
 bd:Bd S l
theorem PV.mono {S T:Nat}{l:List bz}(h:PV S l)(hST:S<=T):PV T l:=⟨h.PZ,h.nz,h.fits,h.bd.mono hST⟩
theorem PV.nil (S:Nat):PV S []:=⟨List.Pairwise.nil,fun _ hp=>(by cases hp),fun _ hp=>(by cases hp),fun _ hp=>(by cases hp)⟩
theorem PV.ext {S T:Nat}{l m:List bz}(h:PV S l)(k:PV T m)(e:∀ e,tot l e=tot m e):l=m:=NT h.PZ k.PZ h.nz k.nz e
theorem Jv:∀ (n:Nat) (l:List Nat),l.Nodup->(∀ x ∈ l,x<n)->l.length<=n
 | 0,l,_,h=>by
  cases l with
  | nil=>simp
  | cons x r=>exact absurd (h x (List.mem_cons_self ..)) (by omega)
 | n+1,l,hn,h=>by
  have h1:=Jv n (l.erase n) (hn.erase n) (fun x hx=>by
   have h2:=h x (List.mem_of_mem_erase hx);have h3:x≠n:=fun e=>by subst e;exact(List.Nodup.mem_erase_iff hn).1 hx |>.1 rfl
   omega)
  have h2:=List.length_erase_of_mem (a:=n) (l:=l)
  by_cases hm:n ∈ l
  ·have:=h2 hm;omega
  ·rw[List.erase_of_not_mem hm]at h1;omega
theorem kH {e:iM}(h:bV e=true):0<=e.1/\e.1<=5/\0<=e.2.1/\e.2.1<=5/\0<=e.2.2/\e.2.2<=5/\e.1+e.2.1+e.2.2<=5:=by
 unfold bV mh at h;simp at h;omega
theorem Uo {e:iM}(h:bV e=true):GN e<=5:=by
 have h':=kH h;unfold bV at h;simp only[Bool.and_eq_true]at h;rw[vS h.1.1.1 h.1.1.2 h.1.2];omega
theorem Ag {l:List bz}(hk:Keys l)(hf:Fits l):l.length<=216:=by
 have h1:(l.map fun p=>(36*p.1.1+6*p.1.2.1+p.1.2.2).toNat).Nodup:=by
  unfold Keys at hk;rw[List.nodup_iff_pairwise_ne,List.pairwise_map]at hk ⊢;refine(List.Pairwise.and_mem.1 hk).imp ?_;rintro a b ⟨ha,hb,hne⟩ he;apply hne;have h2:=kH (hf a ha);have h3:=kH (hf b hb);have:a.1.1=b.1.1/\a.1.2.1=b.1.2.1/\a.1.2.2=b.1.2.2:=by omega
  obtain⟨⟨x,y,z⟩,q⟩:=a;obtain⟨⟨x',y',z'⟩,q'⟩:=b;simp only at this;obtain⟨rfl,rfl,rfl⟩:=this;rfl
 have h2:=Jv 216 _ h1 (fun x hx=>by
  obtain⟨p,hp,rfl⟩:=List.mem_map.1 hx;have:=kH (hf p hp);omega)
 simpa using h2
theorem PV.length {S:Nat}{l:List bz}(h:PV S l):l.length<=216:=Ag (lF h.PZ) h.fits
def jw (a b:List bz):List bz:=canon (gu [] (a++b))
theorem keys_nil:Keys []:=List.nodup_nil
theorem xG (a b:List bz)(e:iM):tot (jw a b) e=tot a e+tot b e:=by
 unfold jw;rw[zh,xD keys_nil,jv];simp only[tot];grind
end Fi.S
namespace Fi.S
open Go Fi
set_option maxHeartbeats 8000000
def YG:aG:=f207.body.r.r.l.r.bl.lp
def NU:aG:=f207.body.r.r.r.r.l.r.bl.lp
def moZ:D:=.a [.v (.int .i64 0),.v (.int .i64 0),.v (.int .i64 0),.v (.bool false),.s 1 [],.s 1 []]
def uF (a b:List D):FV:=.d (.s 1 [.s 6 a,.s 6 b])
def sU (a b:List D)(k acc:Nat)(t:FV):St:=(st0 [uF a b,.u,.d (.v (.int .i64 acc)),.u,.u,.u,uF a b,.d (.v (.int .i64 2)),.d (.v (.int .i64 k)),t,.u,.u,.u,.u,.u] [])
def lG (a b:List D)(k:Nat)(acc:FV)(L:List ae)(t:FV)(dy:Bool:=false):St:={vars:=[.u,.u,.u,.u,acc,.u,.u,.u,.u,.u,.u,uF a b,.d (.v (.int .i64 2)),.d (.v (.int .i64 k)),t],base:=[],loc:=L,aT:=dy}
theorem w1':ak .i64 1=1:=wrap_i64 (by omega)
theorem w2':ak .i64 2=2:=wrap_i64 (by omega)
theorem afa (a b:List D)(h:a.length<=1000000):Ex E0 YG (sU a b 0 0 .u) (.norm,sU a b 1 a.length .u):=by
 have w:ak .i64 (a.length:Int)=a.length:=wrap_i64 (by omega);have h0:¬ ((a.length:Int)<0):=by omega
 refine Ex.of (n:=60) ?_;unfold sU uF;simp -implicitDefEqProofs[YG,f207,w,h0,w1']
theorem afb (a b:List D)(h:a.length<=1000000)(h':b.length<=1000000):Ex E0 YG (sU a b 1 a.length .u) (.norm,sU a b 2 (a.length+b.length) .u):=by
 have w:ak .i64 ((a.length:Int)+(b.length:Int))=(a.length:Int)+(b.length:Int):=wrap_i64 (by omega);have h0:¬ ((a.length:Int)+(b.length:Int)<0):=by omega
 refine Ex.of (n:=60) ?_;unfold sU uF;simp only[Int.natCast_add];simp -implicitDefEqProofs[YG,f207,w,h0,w2']
theorem afc (a b:List D)(n:Nat):Ex E0 YG (sU a b 2 n .u) (.exit 0,sU a b 2 n (.d (.v (.bool false)))):=by
 refine Ex.of (n:=60) ?_;unfold sU uF;simp -implicitDefEqProofs[YG,f207]
theorem YH (a b:List D)(h:a.length<=1000000)(h':b.length<=1000000):Ex E0 (.loop YG) (sU a b 0 0 .u) (.exit 0,sU a b 2 (a.length+b.length) (.d (.v (.bool false)))) :=
 (afa a b h).next ((afb a b h h').next ((afc a b _).leave (by simp)))
theorem aaG (a b:List D)(acc:FV)(L:List ae)(dy:Bool):Ex E0 NU (lG a b 2 acc L .u dy) (.exit 2,lG a b 2 acc L (.d (.v (.bool false))) dy):=by
 refine Ex.of (n:=60) ?_;unfold lG uF;simp -implicitDefEqProofs[NU,f207]
theorem NV (a b:List D)(k:Nat)(hk:k<2)(ha:a=[])(hb:b=[]):Ex E0 NU (lG a b k (.d (.n 6)) [] .u) (.norm,lG a b (k+1) (.d (.n 6)) [] .u):=by
 subst ha hb;refine Ex.of (n:=60) ?_;unfold lG uF
 match k,hk with
 | 0,_=>simp -implicitDefEqProofs[NU,f207,w1',most]
 | 1,_=>simp -implicitDefEqProofs[NU,f207,w2',most]
theorem afd (a b R:List D)(h:a.length<=1000000):Ex E0 NU (lG a b 0 (.ls (.loc 0) 0 6 0 0) [.row 0 6 R] .u) (.norm,lG a b 1 (.ls (.loc 0) 1 6 0 a.length) [.row 1 6 a] .u):=by
 have h1:a.length*80<=most:=by unfold most;omega
 have h2:a.length<=most:=by unfold most;omega
 refine Ex.of (n:=60) ?_;unfold lG uF;simp -implicitDefEqProofs[NU,f207,w1',h1,h2]
theorem afe (a b:List D)(h:a.length<=1000000)(h':b.length<=1000000):Ex E0 NU (lG a b 1 (.ls (.loc 0) 1 6 0 a.length) [.row 1 6 a] .u) (.norm,lG a b 2 (.ls (.loc 0) 2 6 0 (a.length+b.length)) [.row 2 6 (a++b)] .u):=by
 have h1:(a.length+b.length)*80<=most:=by unfold most;omega
 have h2:a.length+b.length<=most:=by unfold most;omega
 refine Ex.of (n:=60) ?_;unfold lG uF;simp -implicitDefEqProofs[NU,f207,w2',h1,h2]
theorem Uq (n m:Nat)(h0:0<n)(h:n<=2000000):CL E0 (m+100) 258 [.d (.n 6),.d (.v (.int .i64 n))] []=some (.ls (.old 0) 0 6 0 0,some [.row 0 6 (List.replicate n moZ)]):=by
 have w0:ak .i64 0=0:=wrap_i64 (by omega);have wn:ak .i64 (n:Int)=n:=wrap_i64 (by omega);have g0:¬ ((n:Int)<0):=by omega
 have g1:(0:Int)<n:=by omega
 have h1:(n:Int)*80<=most:=by unfold most;omega
 have h2:(n:Int)<=most:=by unfold most;omega
 rw[av rfl (k258:E0.fn _=_) rfl];simp -implicitDefEqProofs[f258,FV.aA,ae.aA,j_,EZ,w0,wn,g0,g1,h1,h2,moZ,h0]
theorem P5 (a b:List D)(ha:a.length<=1000000)(hb:b.length<=1000000):∃ o,Ca E0 207 [uF a b] (.d (.s 6 (a++b)),o)/\(o=none\/∃ x,o=some [x]):=by
 have w0:ak .i64 0=0:=wrap_i64 (by omega);have hA:Ex E0 f207.body.l (st0 [uF a b,.u,.u,.u,.u,.u,.u,.u,.u,.u,.u,.u,.u,.u,.u] []) (.norm,(st0 [uF a b,.u,.u,.u,.u,.u,.u,.u,.u,.u,.u,.u,.u,.u,.u] [])):=by
  refine Ex.of (n:=60) ?_;unfold uF;simp -implicitDefEqProofs[f207]
 have hB:Ex E0 f207.body.r.l (st0 [uF a b,.u,.u,.u,.u,.u,.u,.u,.u,.u,.u,.u,.u,.u,.u] []) (.norm,(st0 [uF a b,.u,.d (.v (.int .i64 0)),.u,.u,.u,.u,.u,.u,.u,.u,.u,.u,.u,.u] [])):=by
  refine Ex.of (n:=60) ?_;unfold uF;simp -implicitDefEqProofs[f207]
 have hC:Ex E0 f207.body.r.r.l.l (st0 [uF a b,.u,.d (.v (.int .i64 0)),.u,.u,.u,.u,.u,.u,.u,.u,.u,.u,.u,.u] []) (.norm,sU a b 0 0 .u):=by
  refine Ex.of (n:=60) ?_;unfold uF sU uF;simp -implicitDefEqProofs[f207]
 have hL:=YH a b ha hb;have hN:∃ acc L,Ex E0 (.loop NU) (lG a b 0 acc L .u) (.exit 2,lG a b 2 acc L .u)\/True:=⟨.u,[],.inr trivial⟩
 clear hN
 by_cases hn:a.length+b.length=0
 ·obtain rfl:a=[]:=List.eq_nil_of_length_eq_zero (by omega);obtain rfl:b=[]:=List.eq_nil_of_length_eq_zero (by omega);have hD:Ex E0 f207.body.r.r.r.l (sU [] [] 2 (0+0) (.d (.v (.bool false)))) (.norm,(st0 [uF [] [],.u,.u,.u,.d (.n 6),.u,.u,.u,.u,.u,.u,.u,.u,.u,.u] [])):=by
   have t:∀ m,CL E0 (m+100) 258 [.d (.n 6),.d (.v (.int .i64 0))] []=some (.d (.n 6),none):=by
    intro m;rw[av rfl (k258:E0.fn _=_) rfl];simp -implicitDefEqProofs[f258,w0]
   refine Ex.of (n:=200) ?_;unfold sU uF;simp -implicitDefEqProofs[f207,t,FV.aR,FV.aA,ae.aA]
  have hE:Ex E0 f207.body.r.r.r.r.l.l (st0 [uF [] [],.u,.u,.u,.d (.n 6),.u,.u,.u,.u,.u,.u,.u,.u,.u,.u] []) (.norm,lG [] [] 0 (.d (.n 6)) [] .u):=by
   refine Ex.of (n:=60) ?_;unfold uF lG uF;simp -implicitDefEqProofs[f207]
  have hF:Ex E0 f207.body.r.r.r.r.r (lG [] [] 2 (.d (.n 6)) [] (.d (.v (.bool false)))) (.ret,(st0 [.u,.d (.n 6),.u,.u,.u,.u,.u,.u,.u,.u,.u,.u,.u,.u,.u] [])):=by
   refine Ex.of (n:=60) ?_;unfold lG uF;simp -implicitDefEqProofs[f207]
  have hM:Ex E0 (.loop NU) (lG [] [] 0 (.d (.n 6)) [] .u) (.exit 2,lG [] [] 2 (.d (.n 6)) [] (.d (.v (.bool false)))) :=
   (NV [] [] 0 (by omega) rfl rfl).next ((NV [] [] 1 (by omega) rfl rfl).next ((aaG [] [] _ _ _).leave (by simp)))
  refine⟨none,Ca.body (o:=.ret) rfl (k207:E0.fn _=_) rfl ?_ (by intro id h;cases h) (st1:=(st0 [.u,.d (.n 6),.u,.u,.u,.u,.u,.u,.u,.u,.u,.u,.u,.u,.u] [])) ?_,.inl rfl⟩
  ·show Ex E0 (.seq f207.body.l (.seq f207.body.r.l (.seq (.seq f207.body.r.r.l.l (.block 0 (.loop YG))) (.seq f207.body.r.r.r.l (.seq (.seq f207.body.r.r.r.r.l.l (.block 2 (.loop NU))) f207.body.r.r.r.r.r))))) _ _;exact hA.seq (hB.seq ((hC.seq hL.block).seq (hD.seq ((hE.seq hM.block).seq hF))))
  ·simp -implicitDefEqProofs[f207]
 ·have hD:Ex E0 f207.body.r.r.r.l (sU a b 2 (a.length+b.length) (.d (.v (.bool false)))) (.norm,(st0 [uF a b,.u,.u,.u,.ls (.loc 0) 0 6 0 0,.u,.u,.u,.u,.u,.u,.u,.u,.u,.u] [.row 0 6 (List.replicate (a.length+b.length) moZ)])):=by
   have t:=fun m=>Uq (a.length+b.length) m (by omega) (by omega)
   refine Ex.of (n:=200) ?_;unfold sU uF;generalize a.length+b.length=n at*;generalize List.replicate n moZ=R at*;simp -implicitDefEqProofs[f207,t,FV.aR,FV.aA,ae.aA]
  have hE:Ex E0 f207.body.r.r.r.r.l.l (st0 [uF a b,.u,.u,.u,.ls (.loc 0) 0 6 0 0,.u,.u,.u,.u,.u,.u,.u,.u,.u,.u] [.row 0 6 (List.replicate (a.length+b.length) moZ)]) (.norm,lG a b 0 (.ls (.loc 0) 0 6 0 0) [.row 0 6 (List.replicate (a.length+b.length) moZ)] .u):=by
   refine Ex.of (n:=60) ?_;unfold uF lG uF;generalize List.replicate (a.length+b.length) moZ=R at*;simp -implicitDefEqProofs[f207]
  have hF:Ex E0 f207.body.r.r.r.r.r (lG a b 2 (.ls (.loc 0) 2 6 0 (a.length+b.length)) [.row 2 6 (a++b)] (.d (.v (.bool false)))) (.ret,(st0 [.u,.ls (.loc 0) 2 6 0 (a.length+b.length),.u,.u,.u,.u,.u,.u,.u,.u,.u,.u,.u,.u,.u] ([.row 2 6 (a++b)]))):=by
   refine Ex.of (n:=60) ?_;unfold lG uF;simp -implicitDefEqProofs[f207]
  have hM:Ex E0 (.loop NU) (lG a b 0 (.ls (.loc 0) 0 6 0 0) [.row 0 6 (List.replicate (a.length+b.length) moZ)] .u) (.exit 2,lG a b 2 (.ls (.loc 0) 2 6 0 (a.length+b.length)) [.row 2 6 (a++b)] (.d (.v (.bool false)))) :=
   (afd a b _ ha).next ((afe a b ha hb).next ((aaG a b _ _ _).leave (by simp)))
  refine⟨none,Ca.body (o:=.ret) rfl (k207:E0.fn _=_) rfl ?_ (by intro id h;cases h) (st1:=(st0 [.u,.ls (.loc 0) 2 6 0 (a.length+b.length),.u,.u,.u,.u,.u,.u,.u,.u,.u,.u,.u,.u,.u] ([.row 2 6 (a++b)]))) ?_,.inl rfl⟩
  ·show Ex E0 (.seq f207.body.l (.seq f207.body.r.l (.seq (.seq f207.body.r.r.l.l (.block 0 (.loop YG))) (.seq f207.body.r.r.r.l (.seq (.seq f207.body.r.r.r.r.l.l (.block 2 (.loop NU))) f207.body.r.r.r.r.r))))) _ _;exact hA.seq (hB.seq ((hC.seq hL.block).seq (hD.seq ((hE.seq hM.block).seq hF))))
  ·have e1:ae.view 2 6 0 (a.length+b.length) (.row 2 6 (a++b))=some (a++b):=by
    have:List.take (a.length+b.length) (a++b)=a++b:=by rw[<-List.length_append,List.take_length]
    simp[ae.view,this]
   clear hA hB hC hL hD hE hF hM hn;simp -implicitDefEqProofs[f207,e1,FV.aA,ae.aA]
def aV (l:List bz):D:=.s 6 (l.map fun p=>qC p.1 p.2)
def sW (p:bz):Mo:=⟨p.1,qs p.2,qn p.2,qd p.2⟩
theorem GV (l:List bz):aV l=PD (l.map sW):=by
 unfold aV PD;rw[List.map_map];rfl
theorem Ur {l:List bz}:pE l=aV (canon l):=by
 unfold pE aV canon;have h1:l.flatMap d_=(l.filter fun p=>decide (p.2≠0)).map fun p=>qC p.1 p.2:=by
  induction l with
  | nil=>rfl
  | cons p r ih =>
   by_cases hp:p.2=0
   ·rw[List.filter_cons_of_neg (by simpa using hp)];simp[List.flatMap_cons,d_,hp,ih]
   ·rw[List.filter_cons_of_pos (by simpa using hp)];simp[List.flatMap_cons,d_,hp,ih]
 rw[h1,<-List.map_mergeSort (r:=fun a b => !ku b.1 a.1)];intro a _ b _;rfl
theorem YI {S:Nat}{l:List bz}(h:Bd S l){e:iM}{y:Rat}(hy:l5 l e=some y):qz y<=S:=h _ (Df hy)
def paL:aG:=f155.body.r.r.l.r.bl.lp
def P6 (es:List D)(k:Nat)(L:List ae)(t:FV):St:=(st0 [.u,.u,.u,.m (.loc 0),.u,.d (.s 6 es),.d (.v (.int .i64 es.length)),.d (.v (.int .i64 k)),t] L)
theorem Us (es:List D)(k:Nat)(L:List ae)(l:List bz)(p:bz)(hn:es.length<=1000000)(hk:es[k]?=some (qC p.1 p.2))(hL:L[0]?=some (.map (l.map iU)))(hp:qz p.2<=50000)(hl:Bd 50000 l)(hf:bV p.1=true) :
  ∃ L',Ex E1 paL (P6 es k L .u) (.norm,P6 es (k+1) L' .u)/\L'[0]?=some (.map ((rO l p.1 p.2).map iU)):=by
 obtain⟨e,x⟩:=p;have hkl:k<es.length:=(aW hk)
 have hB:(List.map (ae.aA 0) (L++[ae.box [.d (.v (.int .i64 e.1)),.d (.v (.int .i64 e.2.1)),.d (.v (.int .i64 e.2.2)),.d (.v (.bool (qs x))),.d (LD (qn x)),.d (LD (qd x))]]))[0]?=some (.map (l.map iU)):=by
  cases L with
  | nil=>cases hL
  | cons o r=>simp only[List.getElem?_cons_zero,Option.some.injEq]at hL;subst hL;rfl
 obtain⟨N,B',t,hlen,hB'⟩:=Jr _ 0 l hB e x hp (fun y hy=>YI hl hy) (Uo hf);refine⟨B',Ex.of (n:=N+200) ?_,hB'⟩;have aQ:ak .i64 ((k:Int)+1)=(k:Int)+1:=wrap_i64 (by omega);have hk1:((k+1:Nat):Int)=(k:Int)+1:=by omega
 have hk0:(0:Int)<=(k:Int):=by omega
 have hkc:(k:Int)<(es.length:Int):=by omega
 clear hB hB' hlen hp hl hf;obtain⟨a,b,c⟩:=e;unfold P6;rw[hk1];simp only[qC,AZ,mf,qD,raw]at*;generalize qs x=s at*;simp only[LD]at*;generalize LL (qn x)=ns,LL (qd x)=ds at*;have i1:=idx hk;simp only[List.map_append,List.map_cons,List.map_nil,ae.aA,FV.aR,FV.aA]at t;simp -implicitDefEqProofs[paL,f155,aQ,hk0,hkc,hk,i1,t,FV.aA,FV.aR,ae.aA]
theorem Ut {ms:List bz}{k:Nat}{p:bz}(h:ms[k]?=some p):gu [] (ms.take (k+1))=rO (gu [] (ms.take k)) p.1 p.2:=by
 rw[List.take_add_one,h];show gu [] (ms.take k++[p])=_;rw[Ju];rfl
theorem YJ (ms:List bz)(L:List ae)(S:Nat)(hn:ms.length<=1000000)(hL:L[0]?=some (.map []))(hf:Fits ms)(hb:Bd S ms)(hS:S<=50000)(hm:ms.length*(S+1)<=50000) :
  ∃ L',Ex E1 (.loop paL) (P6 (ms.map fun p=>qC p.1 p.2) 0 L .u) (.exit 0,P6 (ms.map fun p=>qC p.1 p.2) ms.length L' (.d (.v (.bool false))))/\L'[0]?=some (.map ((gu [] ms).map iU)):=by
 have hlen:(ms.map fun p=>qC p.1 p.2).length=ms.length:=by simp
 obtain⟨r,h1,L',h2,h3⟩:=Ex.inv (E:=E1) (b:=paL) (α:=Nat × List ae) (S:=fun a=>P6 (ms.map fun p=>qC p.1 p.2) a.1 a.2 .u) (fun a=>ms.length-a.1)
  (fun a=>a.1<=ms.length/\a.2[0]?=some (.map ((gu [] (ms.take a.1)).map iU))) (fun r=>∃ L',r=(.exit 0,P6 (ms.map fun p=>qC p.1 p.2) ms.length L' (.d (.v (.bool false))))/\L'[0]?=some (.map ((gu [] ms).map iU))) (by
   rintro⟨k,L⟩ ⟨q1,q2⟩;simp only at q1 q2
   by_cases hk:k<ms.length
   ·have hp:ms[k]?=some ms[k]:=List.getElem?_eq_getElem hk;have hpm:ms[k] ∈ ms:=List.getElem_mem hk;have hp2:(ms.map fun p=>qC p.1 p.2)[k]?=some (qC ms[k].1 ms[k].2):=by rw[List.getElem?_map,hp];rfl
    have hbd:Bd 50000 (gu [] (ms.take k)):=by
     refine(L9 (S:=0) (T:=S) (fun p hp=>by cases hp) (fun p hp=>hb p (List.mem_of_mem_take hp))).mono ?_;rw[List.length_take,Nat.zero_add];exact Nat.le_trans (Nat.mul_le_mul_right _ (Nat.min_le_right _ _)) hm
    obtain⟨L',g1,g2⟩:=Us _ k L _ ms[k] (by rw[hlen];exact hn) hp2 q2 (Nat.le_trans (hb _ hpm) hS) hbd (hf _ hpm);refine .inl ⟨(k+1,L'),g1,by show ms.length-(k+1)<ms.length-k;omega,by show k+1<=_;omega,?_⟩;show L'[0]?=some (.map ((gu [] (ms.take (k+1))).map iU));rw[Ut hp];exact g2
   ·obtain rfl:k=ms.length:=by omega
    rw[List.take_length]at q2;refine .inr ⟨_,Ex.of (n:=60) ?_,?_,L,rfl,q2⟩
    ·simp only[P6,hlen];generalize (ms.map fun p=>qC p.1 p.2)=es,ms.length=n at*;simp -implicitDefEqProofs[paL,f155]
    ·simp) (0,L) ⟨Nat.zero_le _,hL⟩
 subst h2;exact⟨L',h1,h3⟩
theorem Bu {S:Nat}:∀ {l:List bz} {q:Option Mo},PV S l->(∀ m,q=some m->∀ p ∈ l,ku m.e p.1=true)->wU q (l.map sW)=true
 | [],_,_,_=>by simp[wU]
 | p::l,q,h,hq=>by
  have hs:=List.pairwise_cons.1 h.PZ;have hfit:(sW p).fits=true:=by
   unfold Mo.fits sW;have h1:=h.fits p (List.mem_cons_self ..);have h2:qn p.2≠[]:=by
    have h3:=h.nz p (List.mem_cons_self ..);intro h4;have h5:p.2.num.natAbs=0:=by
     have:=aX (p.2.num.natAbs);unfold qn at h4;rw[h4]at this;simpa[val] using this.symm
    exact h3 (Rat.num_eq_zero.1 (Int.natAbs_eq_zero.1 h5))
   simp[h1,h2,uz]
  have hr:wU (some (sW p)) (l.map sW)=true:=Bu (S:=S) ⟨hs.2,fun x hx=>h.nz x (List.mem_cons_of_mem _ hx),fun x hx=>h.fits x (List.mem_cons_of_mem _ hx),fun x hx=>h.bd x (List.mem_cons_of_mem _ hx)⟩ (fun m hm x hx=>by cases hm;exact hs.1 x hx);cases q with
  | none=>simp only[List.map_cons,wU,hfit,hr,Bool.and_self]
  | some m =>
   have h6:iT m.e (sW p).e<0:=of_decide_eq_true (hq m rfl p (List.mem_cons_self ..));simp only[List.map_cons,wU,hfit,hr,decide_eq_true h6,Bool.and_self]
theorem Uu {S:Nat}{l:List bz}(h:PV S l)(hS:S<=1000):Po (l.map sW):=by
 refine⟨fun m hm => ?_,by have:=h.length;simp;omega⟩;obtain⟨p,hp,rfl⟩:=List.mem_map.1 hm;have hb:=h.bd p hp;have h1:(qn p.2).length<=qz p.2:=Nat.le_max_left _ _;have h2:(qd p.2).length<=qz p.2:=by
  unfold qd;split
  ·simp
  ·exact Nat.le_max_right _ _
 exact⟨GD _,GG _,Nat.le_trans h1 (Nat.le_trans hb hS),Nat.le_trans h2 (Nat.le_trans hb hS)⟩
theorem FC {S:Nat}{l:List bz}(h:PV S l)(hS:S<=1000):Ca E1 208 [.d (aV l)] (.d (aV l),none):=by
 have h1:=Fh _ (Uu h hS);rw[Bu h (fun m hm=>by cases hm),<-GV]at h1;obtain⟨N,t⟩:=(Ca.dW h1).get;refine Ca.bD (n:=N+60) ?_;rw[av rfl (k208:E1.fn _=_) rfl];unfold aV at*;generalize (l.map fun p=>qC p.1 p.2)=es at*;simp -implicitDefEqProofs[f208,t]
theorem L_ {S:Nat}{ms:List bz}(hf:Fits ms)(hb:Bd S ms)(hm:ms.length*(S+1)<=50000):vX (gu [] ms)=true:=by
 have hk:Keys (gu [] ms):=xC keys_nil;have hF:Fits (gu [] ms):=xE (fun p hp=>by cases hp) hf;have hB:Bd (0+ms.length*(S+1)) (gu [] ms):=L9 (fun p hp=>by cases hp) hb;have hl:=Ag hk hF;unfold vX;simp only[Bool.and_eq_true,decide_eq_true_eq,List.all_eq_true];exact⟨⟨hk,fun p hp=>by have:=hB p hp;omega⟩,by omega⟩
theorem P7 {S:Nat}{L:List ae}{ms:List bz}(hL:L[0]?=some (.map ((gu [] ms).map iU)))(hf:Fits ms)(hb:Bd S ms)(hm:ms.length*(S+1)<=50000)(m:Nat) :
  CL E1 m 206 [.m (.old 0)] (List.map (ae.aA 0) L)=some (.d (aV (canon (gu [] ms))),none):=by
 have hB:(List.map (ae.aA 0) L)[0]?=some (.map ((gu [] ms).map iU)):=by rw[List.getElem?_map,hL];rfl
 rw[Fx m 0 _ _ hB (L_ hf hb hm),Ur]
theorem YK {S:Nat}{a b:List bz}(ha:PV S a)(hb:PV S b)(hS:S<=1000)(hm:(a++b).length*(S+1)<=50000):Ca E1 155 [.d (aV a),.d (aV b)] (.d (aV (jw a b)),none):=by
 have hf:Fits (a++b):=fun p hp=>by
  rcases List.mem_append.1 hp with hp|hp
  ·exact ha.fits p hp
  ·exact hb.fits p hp
 have hB:Bd S (a++b):=fun p hp=>by
  rcases List.mem_append.1 hp with hp|hp
  ·exact ha.bd p hp
  ·exact hb.bd p hp
 have la:=ha.length;have lb:=hb.length;have hlen:(a++b).length<=1000000:=by rw[List.length_append];omega
 obtain⟨N1,t1⟩:=(FC ha hS).any;obtain⟨N2,t2⟩:=(FC hb hS).any;obtain⟨o,hc,ho⟩:=P5 (a.map fun p=>qC p.1 p.2) (b.map fun p=>qC p.1 p.2) (by simp;omega) (by simp;omega);obtain⟨N3,t3⟩:=(Ca.dW hc).any;obtain⟨M,hM⟩:∃ M,M=N1+N2+N3:=⟨_,rfl⟩
 replace t1:=t1 M (by omega);replace t2:=t2 M (by omega);replace t3:=t3 M (by omega);have e1:(a.map fun p=>qC p.1 p.2)++(b.map fun p=>qC p.1 p.2)=(a++b).map fun p=>qC p.1 p.2:=by simp
 rw[e1]at t3;have hAB:Ex E1 f155.body.l (st0 [.d (aV a),.d (aV b),.u,.u,.u,.u,.u,.u,.u] []) (.norm,(st0 [.d (aV a),.d (aV b),.u,.u,.u,.u,.u,.u,.u] [])):=by
  refine Ex.of (n:=60) ?_;generalize aV a=x1;generalize aV b=x2;simp -implicitDefEqProofs[f155]
 have hMk:Ex E1 f155.body.r.l (st0 [.d (aV a),.d (aV b),.u,.u,.u,.u,.u,.u,.u] []) (.norm,(st0 [.d (aV a),.d (aV b),.u,.m (.loc 0),.u,.u,.u,.u,.u] [.map []])):=by
  refine Ex.of (n:=60) ?_;generalize aV a=x1;generalize aV b=x2;simp -implicitDefEqProofs[f155]
 have hC:∃ L,L[0]?=some (.map [])/\Ex E1 f155.body.r.r.l.l (st0 [.d (aV a),.d (aV b),.u,.m (.loc 0),.u,.u,.u,.u,.u] [.map []]) (.norm,P6 ((a++b).map fun p=>qC p.1 p.2) 0 L .u):=by
  rcases ho with rfl|⟨x,rfl⟩
  ·refine⟨[.map []],rfl,Ex.of (n:=M+100) ?_⟩;unfold aV P6 uF at*;generalize ((a++b).map fun p=>qC p.1 p.2)=es,(a.map fun p=>qC p.1 p.2)=es1,(b.map fun p=>qC p.1 p.2)=es2 at*;simp -implicitDefEqProofs[f155,t1,t2,t3]
  ·refine⟨[.map [],ae.shift 1 x],rfl,Ex.of (n:=M+100) ?_⟩;unfold aV P6 uF at*;generalize ((a++b).map fun p=>qC p.1 p.2)=es,(a.map fun p=>qC p.1 p.2)=es1,(b.map fun p=>qC p.1 p.2)=es2 at*;simp -implicitDefEqProofs[f155,t1,t2,t3]
 obtain⟨L,hL,hC⟩:=hC;obtain⟨L',hl,hL'⟩:=YJ (a++b) L S hlen hL hf hB (by omega) hm;have t4:=fun m=>P7 hL' hf hB hm m
 have NW:aV (canon (gu [] (a++b)))=aV (jw a b):=rfl;rw[NW]at t4;have hD:Ex E1 f155.body.r.r.r (P6 ((a++b).map fun p=>qC p.1 p.2) (a++b).length L' (.d (.v (.bool false)))) (.ret,(st0 [.u,.u,.d (aV (jw a b)),.u,.u,.u,.u,.u,.u] (L'))):=by
  refine Ex.of (n:=100) ?_;unfold aV P6 at*;generalize ((a++b).map fun p=>qC p.1 p.2)=es,((jw a b).map fun p=>qC p.1 p.2)=es1 at*;simp -implicitDefEqProofs[f155,t4,FV.aA,FV.aR]
 refine Ca.body (o:=.ret) (st1:=(st0 [.u,.u,.d (aV (jw a b)),.u,.u,.u,.u,.u,.u] (L'))) rfl (k155:E1.fn _=_) rfl ?_ (by intro id h;cases h) ?_
 ·show Ex E1 (.seq f155.body.l (.seq f155.body.r.l (.seq (.seq f155.body.r.r.l.l (.block 0 (.loop paL))) f155.body.r.r.r))) _ _;exact hAB.seq (hMk.seq ((hC.seq hl.block).seq hD))
 ·unfold aV;generalize ((jw a b).map fun p=>qC p.1 p.2)=es1 at*;simp -implicitDefEqProofs[f155]
def nV (p:bz):ae:=.box [.d (.v (.int .i64 p.1.1)),.d (.v (.int .i64 p.1.2.1)),.d (.v (.int .i64 p.1.2.2)),.d (.v (.bool (qs p.2))),.d (LD (qn p.2)),.d (LD (qd p.2))]
def jI (a b:iM):iM:=(a.1+b.1,a.2.1+b.2.1,a.2.2+b.2.2)
def tC (p:bz)(b:List bz):List bz:=(b.map fun q=>(jI p.1 q.1,p.2*q.2)).filter fun x=>bV x.1
def gD (a b:List bz):List bz:=a.flatMap fun p=>tC p b
theorem GX (p:bz)(b:List bz):(tC p b).length<=b.length:=by
 unfold tC;exact Nat.le_trans (List.length_filter_le _ _) (by simp)
theorem Ma (p:bz)(b:List bz):Fits (tC p b):=fun x hx=>(List.mem_filter.1 hx).2
theorem GY (a b:List bz):(gD a b).length<=a.length*b.length:=by
 induction a with
 | nil=>simp[gD]
 | cons p r ih =>
  have h1:gD (p::r) b=tC p b++gD r b:=by simp[gD]
  have h2:=GX p b;rw[h1,List.length_append,List.length_cons,Nat.add_mul];omega
theorem Mc (a b:List bz):Fits (gD a b):=fun x hx=>by
 obtain⟨p,_,hx⟩:=List.mem_flatMap.1 hx;exact Ma p b x hx
def lH (a b:List bz):List bz:=canon (gu [] (gD a b))
end Fi.S
namespace Fi.S
open Go Fi
theorem Bv:∀ {l:List bz},Keys l->∀ {p:bz},p ∈ l->tot l p.1=p.2
 | [],_,_,hp=>by cases hp
 | (a,y)::r,h,p,hp=>by
  unfold Keys at h;simp only[List.map_cons,List.nodup_cons]at h;rcases List.mem_cons.1 hp with h0|hp2
  ·subst h0;have hr:∀ x ∈ r,x.1≠a:=fun x hx he=>h.1 (he ▸ List.mem_map.2 ⟨x,hx,rfl⟩)
   simp only[tot,if_true,mE hr];grind
  ·have h1:¬ a=p.1:=fun he=>h.1 (he ▸ List.mem_map.2 ⟨p,hp2,rfl⟩)
   simp only[tot,if_neg h1,Bv h.2 hp2];grind
theorem Dg {S:Nat}(hS:1<=S){l:List bz}(h:Keys l)(hb:Bd S l)(e:iM):qz (tot l e)<=S:=by
 cases hg:l5 l e with
 | none =>
  rw[mE (PY hg)];exact Nat.le_trans jP hS
 | some y =>
  have h1:=Df hg;have h2:=Bv h h1;simp only at h2;rw[h2];exact hb _ h1
theorem Jw {S:Nat}{l:List bz}(hk:Keys l)(hf:Fits l)(hb:∀ e,qz (tot l e)<=S):PV S (canon l):=by
 refine⟨FB hk,Um l,fun p hp=>hf p (Fz.1 hp).1,fun p hp => ?_⟩;have:=Bv (lF (FB hk)) hp;rw[zh]at this;rw[<-this];exact hb _
theorem xH (l:List bz):(canon l).length<=l.length:=by
 unfold canon;rw[List.length_mergeSort];exact List.length_filter_le _ _
theorem pF {S T:Nat}(hS:1<=S)(hT:1<=T){a b:List bz}(ha:PV S a)(hb:PV T b):PV (S+T+1) (jw a b):=by
 refine Jw (xC keys_nil) (xE (fun p hp=>by cases hp) ?_) fun e => ?_
 ·intro p hp;rcases List.mem_append.1 hp with hp|hp
  ·exact ha.fits p hp
  ·exact hb.fits p hp
 ·have h1:tot (gu [] (a++b)) e=tot a e+tot b e:=by
   rw[xD keys_nil,jv];simp only[tot];grind
  rw[h1];have h2:=qm (tot a e) (tot b e);have h3:=Dg hS (lF ha.PZ) ha.bd e;have h4:=Dg hT (lF hb.PZ) hb.bd e;omega
theorem Ah (a b:List bz):(jw a b).length<=a.length+b.length:=by
 have h1:=xH (gu [] (a++b));have h2:=v_ (ms:=a++b) (l:=[]);rw[List.length_append]at h2;show(canon (gu [] (a++b))).length<=_;simp only[List.length_nil]at h2;omega
theorem Jy (a b:List bz):(lH a b).length<=a.length*b.length:=by
 have h1:=xH (gu [] (gD a b));have h2:=v_ (ms:=gD a b) (l:=[]);have h3:=GY a b;show(canon (gu [] (gD a b))).length<=_;simp only[List.length_nil]at h2;omega
theorem Md {p:bz}{b:List bz}(hb:Keys b):Keys (tC p b):=by
 have h1:Keys (b.map fun q=>(jI p.1 q.1,p.2*q.2)):=by
  unfold Keys at*;rw[List.nodup_iff_pairwise_ne,List.pairwise_map]at hb;rw[List.map_map,List.nodup_iff_pairwise_ne,List.pairwise_map];refine hb.imp ?_;intro x y hne he;apply hne;simp only[Function.comp,jI,Prod.mk.injEq]at he;obtain⟨⟨a,b,c⟩,_⟩:=x;obtain⟨⟨a',b',c'⟩,_⟩:=y;simp only at he;simp only[Prod.mk.injEq];omega
 unfold Keys tC at*;exact List.Nodup.sublist (List.filter_sublist.map _) h1
theorem xI {S T:Nat}(hS:1<=S){b:List bz}(hb:PV T b)(e:iM):∀ {a:List bz},Bd S a->qz (tot (gD a b) e)<=a.length*(S+T+1)+1
 | [],_=>by
  have:=jP;simp only[gD,List.flatMap_nil,tot,List.length_nil];omega
 | p::a,ha=>by
  have h1:gD (p::a) b=tC p b++gD a b:=by simp[gD]
  rw[h1,jv];have h2:=qm (tot (tC p b) e) (tot (gD a b) e);have h3:=xI hS hb e (a:=a) (fun x hx=>ha x (List.mem_cons_of_mem _ hx));have h4:Bd (S+T) (tC p b):=by
   intro x hx;obtain⟨hx,_⟩:=List.mem_filter.1 hx;obtain⟨q,hq,rfl⟩:=List.mem_map.1 hx;have g1:=Li p.2 q.2;have g2:=hb.bd q hq;have g3:=ha p (List.mem_cons_self ..);show qz (p.2*q.2)<=_;omega
  have h5:=Dg (by omega) (Md (lF hb.PZ)) h4 e;rw[List.length_cons,Nat.add_mul];omega
theorem xJ (a b:List bz)(e:iM):tot (lH a b) e=tot (gD a b) e:=by
 unfold lH;rw[zh,xD keys_nil];simp only[tot];grind
theorem uG {S T:Nat}(hS:1<=S){a b:List bz}(ha:PV S a)(hb:PV T b):PV (a.length*(S+T+1)+1) (lH a b):=by
 refine Jw (xC keys_nil) (xE (fun p hp=>by cases hp) (Mc a b)) fun e => ?_
 have h1:tot (gu [] (gD a b)) e=tot (gD a b) e:=by
  rw[xD keys_nil];simp only[tot];grind
 rw[h1];exact xI hS hb e ha.bd
end Fi.S
