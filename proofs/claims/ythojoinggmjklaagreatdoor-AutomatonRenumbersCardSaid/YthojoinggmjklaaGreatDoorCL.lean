import Derived.Test.YthojoinggmjklaaGreatDoorCH
import Derived.Test.YthojoinggmjklaaGreatDoorCF
set_option linter.unusedVariables false
set_option linter.unusedSimpArgs false
noncomputable section
namespace Fi.S
open Go Fi
abbrev jA:Type:=Int × Int × Int
def tot:List bN->jA->Rat
 | [],_=>0
 | (a,y)::r,e=>(if a=e then y else 0)+tot r e
theorem zW (a b:List bN)(e:jA):tot (a++b) e=tot a e+tot b e:=by
 induction a with
 | nil=>simp[tot,Rat.zero_add]
 | cons p r ih=>simp only[List.cons_append,tot,ih];grind
theorem Qg {a b:List bN}(h:a.Perm b)(e:jA):tot a e=tot b e:=by
 induction h with
 | nil=>rfl
 | cons p _ ih=>simp only[tot,ih]
 | swap p q l=>simp only[tot];grind
 | trans _ _ h1 h2=>rw[h1,h2]
theorem l5 {l:List bN}{e:jA}(h:∀ p ∈ l,p.1≠e):tot l e=0:=by
 induction l with
 | nil=>rfl
 | cons p r ih =>
  have h1:=h p (List.mem_cons_self ..);have h2:=ih (fun q hq=>h q (List.mem_cons_of_mem _ hq));simp only[tot,if_neg h1,h2];grind
theorem Ja (l:List bN)(e:jA):tot (l.filter fun p=>decide (p.2≠0)) e=tot l e:=by
 induction l with
 | nil=>rfl
 | cons p r ih =>
  obtain⟨a,y⟩:=p
  by_cases hy:y=0
  ·subst hy;rw[List.filter_cons_of_neg (by simp)];simp only[tot,ih]
   by_cases h:a=e<;>simp[h,Rat.zero_add]
  ·rw[List.filter_cons_of_pos (by simpa using hy)];simp only[tot,ih]
theorem Mq {l:List bN}{e:jA}(h:kK l e=none):∀ p ∈ l,p.1≠e:=by
 induction l with
 | nil=>intro p hp;cases hp
 | cons q r ih =>
  intro p hp;unfold kK at h;split at h
  ·cases h
  ·rename_i hne;rcases List.mem_cons.1 hp with rfl|hp
   ·exact fun he=>hne he.symm
   ·exact ih h p hp
theorem zX {l:List bN}{e:jA}{y:Rat}(h:kK l e=some y):(e,y) ∈ l:=by
 induction l with
 | nil=>cases h
 | cons q r ih =>
  unfold kK at h;split at h
  ·rename_i he;cases h;subst he;exact List.mem_cons_self ..
  ·exact List.mem_cons_of_mem _ (ih h)
theorem Qh {l:List bN}{e:jA}{y:Rat}{p:bN}(h:p ∈ sQ l e y):p=(e,y)\/p ∈ l:=by
 induction l with
 | nil=>simp only[sQ,List.mem_singleton]at h;exact .inl h
 | cons q r ih =>
  unfold sQ at h;split at h
  ·rcases List.mem_cons.1 h with rfl|h
   ·exact .inl rfl
   ·exact .inr (List.mem_cons_of_mem _ h)
  ·rcases List.mem_cons.1 h with rfl|h
   ·exact .inr (List.mem_cons_self ..)
   ·rcases ih h with h|h
    ·exact .inl h
    ·exact .inr (List.mem_cons_of_mem _ h)
theorem Co (l:List bN)(e:jA)(y:Rat):(sQ l e y).map (·.1)=l.map (·.1)\/((∀ p ∈ l,p.1≠e)/\(sQ l e y).map (·.1)=l.map (·.1)++[e]):=by
 induction l with
 | nil=>exact .inr ⟨by simp,rfl⟩
 | cons q r ih =>
  obtain⟨a,x⟩:=q;unfold sQ
  by_cases h:e=a
  ·subst h;left;simp
  ·rw[if_neg h];rcases ih with ih|⟨h1,ih⟩
   ·left;simp only[List.map_cons,ih]
   ·right
    refine⟨fun p hp => ?_,by simp only[List.map_cons,ih,List.cons_append]⟩;rcases List.mem_cons.1 hp with rfl|hp
    ·exact fun he=>h he.symm
    ·exact h1 p hp
def Keys (l:List bN):Prop:=(l.map (·.1)).Nodup
theorem Qi {l:List bN}(h:Keys l)(e:jA)(y:Rat):Keys (sQ l e y):=by
 unfold Keys at*;rcases Co l e y with h1|⟨h1,h2⟩
 ·rw[h1];exact h
 ·rw[h2,List.nodup_append];refine⟨h,by simp,?_⟩;intro a ha b hb;simp only[List.mem_singleton]at hb;subst hb;obtain⟨p,hp,rfl⟩:=List.mem_map.1 ha;exact h1 p hp
theorem UU {l:List bN}(h:Keys l)(e:jA)(y:Rat)(e':jA):tot (sQ l e y) e'=if e=e' then y else tot l e':=by
 induction l with
 | nil=>simp only[sQ,tot];split<;>grind
 | cons q r ih =>
  obtain⟨a,x⟩:=q;unfold Keys at h ih;simp only[List.map_cons,List.nodup_cons]at h;have hr:∀ p ∈ r,p.1≠a:=fun p hp he=>h.1 (he ▸ List.mem_map.2 ⟨p,hp,rfl⟩)
  unfold sQ
  by_cases he:e=a
  ·subst he;rw[if_pos rfl];simp only[tot]
   by_cases h2:e=e'
   ·subst h2;simp only[if_pos,l5 hr];grind
   ·simp only[if_neg h2]
  ·rw[if_neg he];simp only[tot,ih h.2]
   by_cases h2:e=e'
   ·subst h2;have:¬ a=e:=fun h3=>he h3.symm
    simp only[if_neg this,if_true];grind
   ·simp only[if_neg h2]
theorem Qj {l:List bN}(h:Keys l)(e:jA):(kK l e).getD 0=tot l e:=by
 induction l with
 | nil=>rfl
 | cons q r ih =>
  obtain⟨a,x⟩:=q;unfold Keys at h ih;simp only[List.map_cons,List.nodup_cons]at h;have hr:∀ p ∈ r,p.1≠a:=fun p hp he=>h.1 (he ▸ List.mem_map.2 ⟨p,hp,rfl⟩)
  unfold kK
  by_cases he:e=a
  ·subst he;simp only[if_true,Option.getD_some,tot,l5 hr];grind
  ·have h2:¬ a=e:=fun h3=>he h3.symm
   rw[if_neg he];simp only[tot,if_neg h2,ih h.2];grind
theorem Ga {l:List bN}(h:Keys l)(e:jA)(c:Rat):Keys (pR l e c):=Qi h e _
theorem UW {l:List bN}(h:Keys l)(e:jA)(c:Rat)(e':jA):tot (pR l e c) e'=tot l e'+if e=e' then c else 0:=by
 unfold pR;rw[UU h,Qj h]
 by_cases h2:e=e'
 ·subst h2;simp
 ·simp only[if_neg h2];grind
theorem dK (e:jA):jh e e=false:=by
 cases h:jh e e with
 | false=>rfl
 | true=>rw[kJ]at h;omega
theorem kW {a b c:jA}(h1:jh a b=true)(h2:jh b c=true):jh a c=true:=by
 rw[kJ]at*;omega
def WN (l:List bN):Prop:=l.Pairwise fun a b=>jh a.1 b.1=true
def Nz (l:List bN):Prop:=∀ p ∈ l,p.2≠0
theorem lD {l:List bN}(h:WN l):Keys l:=by
 unfold Keys;rw[List.nodup_iff_pairwise_ne,List.pairwise_map];refine h.imp ?_;intro a b hab he;rw[he,dK]at hab;cases hab
theorem Kt:∀ {l m:List bN},WN l->WN m->Nz l->Nz m->(∀ e,tot l e=tot m e)->l=m
 | [],[],_,_,_,_,_=>rfl
 | [],(b,y)::m,_,hm,_,hn,h=>by
  have h1:=h b;have h2:tot m b=0:=l5 fun p hp he=>by
   have:=(List.pairwise_cons.1 hm).1 p hp;rw[he,dK]at this;cases this
  have h3:=hn (b,y) (List.mem_cons_self ..);simp only[tot,if_true,h2]at h1;grind
 | (a,x)::l,[],hl,_,hn,_,h=>by
  have h1:=h a;have h2:tot l a=0:=l5 fun p hp he=>by
   have:=(List.pairwise_cons.1 hl).1 p hp;rw[he,dK]at this;cases this
  have h3:=hn (a,x) (List.mem_cons_self ..);simp only[tot,if_true,h2]at h1;grind
 | (a,x)::l,(b,y)::m,hl,hm,hn,hk,h=>by
  have hl':=List.pairwise_cons.1 hl;have hm':=List.pairwise_cons.1 hm;have zl:∀ e,(e=a\/jh e a=true)->tot l e=0:=fun e he=>l5 fun p hp hpe=>by
   have h1:=hl'.1 p hp;simp only at h1;rw[hpe]at h1;rcases he with rfl|he
   ·rw[dK]at h1;cases h1
   ·have:=kW h1 he;rw[dK]at this;cases this
  have zm:∀ e,(e=b\/jh e b=true)->tot m e=0:=fun e he=>l5 fun p hp hpe=>by
   have h1:=hm'.1 p hp;simp only at h1;rw[hpe]at h1;rcases he with rfl|he
   ·rw[dK]at h1;cases h1
   ·have:=kW h1 he;rw[dK]at this;cases this
  have hx:=hn (a,x) (List.mem_cons_self ..);have hy:=hk (b,y) (List.mem_cons_self ..);have hab:a=b:=by
   cases h1:jh a b with
   | true =>
    have e1:=h a;have hne:¬ b=a:=fun h2=>by rw[h2,dK]at h1;cases h1
    simp only[tot,if_true,if_neg hne,zl a (.inl rfl),zm a (.inr h1)]at e1;grind
   | false =>
    cases h2:jh b a with
    | true =>
     have e1:=h b;have hne:¬ a=b:=fun h3=>by rw[h3,dK]at h2;cases h2
     simp only[tot,if_true,if_neg hne,zm b (.inl rfl),zl b (.inr h2)]at e1;grind
    | false=>exact jy h1 h2
  subst hab;have hxy:x=y:=by
   have e1:=h a;simp only[tot,if_true,zl a (.inl rfl),zm a (.inl rfl)]at e1;grind
  subst hxy;have:l=m:=Kt hl'.2 hm'.2 (fun p hp=>hn p (List.mem_cons_of_mem _ hp)) (fun p hp=>hk p (List.mem_cons_of_mem _ hp)) (fun e=>by
   have e1:=h e;simp only[tot]at e1;grind)
  rw[this]
def canon (l:List bN):List bN:=(l.filter fun p=>decide (p.2≠0)).mergeSort fun a b => !jh b.1 a.1
theorem Cq (l:List bN)(e:jA):tot (canon l) e=tot l e:=by
 unfold canon;rw[Qg (List.mergeSort_perm _ _),Ja]
theorem Cr {l:List bN}{p:bN}:p ∈ canon l↔p ∈ l/\p.2≠0:=by
 unfold canon;rw[(List.mergeSort_perm _ _).mem_iff];simp
theorem Qk (l:List bN):Nz (canon l):=fun p hp=>(Cr.1 hp).2
theorem Cs {l:List bN}(h:Keys l):WN (canon l):=by
 have h1:((canon l).map (·.1)).Nodup:=by
  have hp:(canon l).Perm (l.filter fun p=>decide (p.2≠0)):=List.mergeSort_perm _ _;refine((hp.map (·.1)).nodup_iff).2 ?_;exact List.Nodup.sublist (List.filter_sublist.map _) h
 have h2:(canon l).Pairwise fun a b=>(!jh b.1 a.1)=true:=by
  refine List.pairwise_mergeSort (fun a b c hab hbc => ?_) (fun a b => ?_) _
  ·simp only[Bool.not_eq_true',Bool.not_eq_eq_eq_not,Bool.not_true]at*;cases h3:jh c.1 a.1 with
   | false=>rfl
   | true =>
    cases h4:jh b.1 c.1 with
    | true=>have:=kW h4 h3;rw[this]at hab;cases hab
    | false =>
     have:=jy h4 hbc;rw[this]at hab;rw[hab]at h3;cases h3
  ·cases h3:jh b.1 a.1 with
   | false=>rfl
   | true =>
    cases h4:jh a.1 b.1 with
    | false=>rfl
    | true=>have:=kW h3 h4;rw[dK]at this;cases this
 rw[List.nodup_iff_pairwise_ne,List.pairwise_map]at h1;refine(h1.and h2).imp ?_;rintro a b ⟨hne,hle⟩;simp only[Bool.not_eq_true',Bool.not_eq_eq_eq_not,Bool.not_true]at hle;cases h3:jh a.1 b.1 with
 | true=>rfl
 | false=>exact absurd (jy h3 hle) hne
def gX (l ms:List bN):List bN:=ms.foldl (fun s p=>pR s p.1 p.2) l
theorem wE (l:List bN)(p:bN)(ms:List bN):gX l (p::ms)=gX (pR l p.1 p.2) ms:=rfl
theorem Gb (l a b:List bN):gX l (a++b)=gX (gX l a) b:=by simp[gX,List.foldl_append]
theorem zY:∀ {ms l:List bN},Keys l->Keys (gX l ms)
 | [],_,h=>h
 | p::ms,l,h=>zY (ms:=ms) (Ga h p.1 p.2)
theorem D8:∀ {ms l:List bN},Keys l->∀ e,tot (gX l ms) e=tot l e+tot ms e
 | [],l,h,e=>by simp only[gX,List.foldl_nil,tot];grind
 | p::ms,l,h,e=>by
  rw[wE,D8 (Ga h p.1 p.2),UW h];simp only[tot];grind
theorem put_mem {l:List bN}{e:jA}{c:Rat}{p:bN}(h:p ∈ pR l e c):p=(e,(kK l e).getD 0+c)\/p ∈ l:=Qh h
def Fits (l:List bN):Prop:=∀ p ∈ l,eF p.1=true
def Bd (S:Nat)(l:List bN):Prop:=∀ p ∈ l,qz p.2<=S
theorem Bd.mono {S T:Nat}{l:List bN}(h:Bd S l)(hST:S<=T):Bd T l:=fun p hp=>Nat.le_trans (h p hp) hST
theorem Ql {l:List bN}(h:Fits l){e:jA}(he:eF e=true)(c:Rat):Fits (pR l e c):=by
 intro p hp;rcases put_mem hp with rfl|hp
 ·exact he
 ·exact h p hp
theorem Yv {S:Nat}{l:List bN}(h:Bd S l)(e:jA){c:Rat}{T:Nat}(hc:qz c<=T):Bd (S+T+1) (pR l e c):=by
 intro p hp;rcases put_mem hp with rfl|hp
 ·show qz ((kK l e).getD 0+c)<=_;cases hg:kK l e with
  | none =>
   have:(0:Rat)+c=c:=Rat.zero_add c;simp only[Option.getD_none,this];omega
  | some y =>
   have h1:=h _ (zX hg);have h2:=vZ y c;simp only[Option.getD_some]at*;omega
 ·have:=h p hp;omega
theorem Jb (l:List bN)(e:jA)(c:Rat):(pR l e c).length<=l.length+1:=by
 have:((pR l e c).map (·.1)).length<=(l.map (·.1)).length+1:=by
  unfold pR;rcases Co l e ((kK l e).getD 0+c) with h|⟨_,h⟩
  ·rw[h];omega
  ·rw[h];simp
 simpa using this
theorem zZ:∀ {ms l:List bN},Fits l->Fits ms->Fits (gX l ms)
 | [],_,h,_=>h
 | p::ms,l,h,hm=>zZ (ms:=ms) (Ql h (hm p (List.mem_cons_self ..)) p.2) (fun q hq=>hm q (List.mem_cons_of_mem _ hq))
theorem Jc {T:Nat}:∀ {ms l:List bN} {S:Nat},Bd S l->Bd T ms->Bd (S+ms.length*(T+1)) (gX l ms)
 | [],_,_,h,_=>h.mono (by simp)
 | p::ms,l,S,h,hm=>by
  have:=Jc (ms:=ms) (Yv h p.1 (hm p (List.mem_cons_self ..))) (fun q hq=>hm q (List.mem_cons_of_mem _ hq));rw[wE];refine this.mono ?_;rw[List.length_cons,Nat.add_mul];omega
theorem z8:∀ {ms l:List bN},(gX l ms).length<=l.length+ms.length
 | [],_=>by simp[gX]
 | p::ms,l=>by
  have h1:=z8 (ms:=ms) (l:=pR l p.1 p.2);have h2:=Jb l p.1 p.2;rw[wE,List.length_cons];omega
structure PV (S:Nat)(l:List bN):Prop where
 N_:WN l
 nz:Nz l
 fits:Fits l
 bd:Bd S l
theorem PV.mono {S T:Nat}{l:List bN}(h:PV S l)(hST:S<=T):PV T l:=⟨h.N_,h.nz,h.fits,h.bd.mono hST⟩
theorem PV.nil (S:Nat):PV S []:=⟨List.Pairwise.nil,fun _ hp=>(by cases hp),fun _ hp=>(by cases hp),fun _ hp=>(by cases hp)⟩
theorem PV.ext {S T:Nat}{l m:List bN}(h:PV S l)(k:PV T m)(e:∀ e,tot l e=tot m e):l=m:=Kt h.N_ k.N_ h.nz k.nz e
theorem Gc:∀ (n:Nat) (l:List Nat),l.Nodup->(∀ x ∈ l,x<n)->l.length<=n
 | 0,l,_,h=>by
  cases l with
  | nil=>simp
  | cons x r=>exact absurd (h x (List.mem_cons_self ..)) (by omega)
 | n+1,l,hn,h=>by
  have h1:=Gc n (l.erase n) (hn.erase n) (fun x hx=>by
   have h2:=h x (List.mem_of_mem_erase hx);have h3:x≠n:=fun e=>by subst e;exact(List.Nodup.mem_erase_iff hn).1 hx |>.1 rfl
   omega)
  have h2:=List.length_erase_of_mem (a:=n) (l:=l)
  by_cases hm:n ∈ l
  ·have:=h2 hm;omega
  ·rw[List.erase_of_not_mem hm]at h1;omega
theorem nM {e:jA}(h:eF e=true):0<=e.1/\e.1<=5/\0<=e.2.1/\e.2.1<=5/\0<=e.2.2/\e.2.2<=5/\e.1+e.2.1+e.2.2<=5:=by
 unfold eF kC at h;simp at h;omega
theorem Qm {e:jA}(h:eF e=true):FU e<=5:=by
 have h':=nM h;unfold eF at h;simp only[Bool.and_eq_true]at h;rw[zz h.1.1.1 h.1.1.2 h.1.2];omega
theorem xB {l:List bN}(hk:Keys l)(hf:Fits l):l.length<=216:=by
 have h1:(l.map fun p=>(36*p.1.1+6*p.1.2.1+p.1.2.2).toNat).Nodup:=by
  unfold Keys at hk;rw[List.nodup_iff_pairwise_ne,List.pairwise_map]at hk ⊢;refine(List.Pairwise.and_mem.1 hk).imp ?_;rintro a b ⟨ha,hb,hne⟩ he;apply hne;have h2:=nM (hf a ha);have h3:=nM (hf b hb);have:a.1.1=b.1.1/\a.1.2.1=b.1.2.1/\a.1.2.2=b.1.2.2:=by omega
  obtain⟨⟨x,y,z⟩,q⟩:=a;obtain⟨⟨x',y',z'⟩,q'⟩:=b;simp only at this;obtain⟨rfl,rfl,rfl⟩:=this;rfl
 have h2:=Gc 216 _ h1 (fun x hx=>by
  obtain⟨p,hp,rfl⟩:=List.mem_map.1 hx;have:=nM (hf p hp);omega)
 simpa using h2
theorem PV.length {S:Nat}{l:List bN}(h:PV S l):l.length<=216:=xB (lD h.N_) h.fits
def jB (a b:List bN):List bN:=canon (gX [] (a++b))
theorem keys_nil:Keys []:=List.nodup_nil
theorem Gd (a b:List bN)(e:jA):tot (jB a b) e=tot a e+tot b e:=by
 unfold jB;rw[Cq,D8 keys_nil,zW];simp only[tot];grind
end Fi.S
namespace Fi.S
open Go Fi
set_option maxHeartbeats 8000000
def UX:aD:=f207.body.r.r.l.r.bl.lp
def Ku:aD:=f207.body.r.r.r.r.l.r.bl.lp
def WO:D:=.a [.v (.int .i64 0),.v (.int .i64 0),.v (.int .i64 0),.v (.bool false),.s 1 [],.s 1 []]
def qV (a b:List D):FV:=.d (.s 1 [.s 6 a,.s 6 b])
def pV (a b:List D)(k acc:Nat)(t:FV):St:=(st0 [qV a b,.u,.d (.v (.int .i64 acc)),.u,.u,.u,qV a b,.d (.v (.int .i64 2)),.d (.v (.int .i64 k)),t,.u,.u,.u,.u,.u] [])
def jV (a b:List D)(k:Nat)(acc:FV)(L:List ae)(t:FV)(dy:Bool:=false):St:={vars:=[.u,.u,.u,.u,acc,.u,.u,.u,.u,.u,.u,qV a b,.d (.v (.int .i64 2)),.d (.v (.int .i64 k)),t],base:=[],loc:=L,aO:=dy}
theorem w1':ak .i64 1=1:=wrap_i64 (by omega)
theorem w2':ak .i64 2=2:=wrap_i64 (by omega)
theorem abv (a b:List D)(h:a.length<=1000000):Ex E0 UX (pV a b 0 0 .u) (.norm,pV a b 1 a.length .u):=by
 have w:ak .i64 (a.length:Int)=a.length:=wrap_i64 (by omega);have h0:¬ ((a.length:Int)<0):=by omega
 refine Ex.of (n:=60) ?_;unfold pV qV;simp -implicitDefEqProofs[UX,f207,w,h0,w1']
theorem abw (a b:List D)(h:a.length<=1000000)(h':b.length<=1000000):Ex E0 UX (pV a b 1 a.length .u) (.norm,pV a b 2 (a.length+b.length) .u):=by
 have w:ak .i64 ((a.length:Int)+(b.length:Int))=(a.length:Int)+(b.length:Int):=wrap_i64 (by omega);have h0:¬ ((a.length:Int)+(b.length:Int)<0):=by omega
 refine Ex.of (n:=60) ?_;unfold pV qV;simp only[Int.natCast_add];simp -implicitDefEqProofs[UX,f207,w,h0,w2']
theorem abx (a b:List D)(n:Nat):Ex E0 UX (pV a b 2 n .u) (.exit 0,pV a b 2 n (.d (.v (.bool false)))):=by
 refine Ex.of (n:=60) ?_;unfold pV qV;simp -implicitDefEqProofs[UX,f207]
theorem UY (a b:List D)(h:a.length<=1000000)(h':b.length<=1000000):Ex E0 (.loop UX) (pV a b 0 0 .u) (.exit 0,pV a b 2 (a.length+b.length) (.d (.v (.bool false)))) :=
 (abv a b h).next ((abw a b h h').next ((abx a b _).leave (by simp)))
theorem WQ (a b:List D)(acc:FV)(L:List ae)(dy:Bool):Ex E0 Ku (jV a b 2 acc L .u dy) (.exit 2,jV a b 2 acc L (.d (.v (.bool false))) dy):=by
 refine Ex.of (n:=60) ?_;unfold jV qV;simp -implicitDefEqProofs[Ku,f207]
theorem Kv (a b:List D)(k:Nat)(hk:k<2)(ha:a=[])(hb:b=[]):Ex E0 Ku (jV a b k (.d (.n 6)) [] .u) (.norm,jV a b (k+1) (.d (.n 6)) [] .u):=by
 subst ha hb;refine Ex.of (n:=60) ?_;unfold jV qV
 match k,hk with
 | 0,_=>simp -implicitDefEqProofs[Ku,f207,w1',most]
 | 1,_=>simp -implicitDefEqProofs[Ku,f207,w2',most]
theorem aby (a b R:List D)(h:a.length<=1000000):Ex E0 Ku (jV a b 0 (.ls (.loc 0) 0 6 0 0) [.row 0 6 R] .u) (.norm,jV a b 1 (.ls (.loc 0) 1 6 0 a.length) [.row 1 6 a] .u):=by
 have h1:a.length*80<=most:=by unfold most;omega
 have h2:a.length<=most:=by unfold most;omega
 refine Ex.of (n:=60) ?_;unfold jV qV;simp -implicitDefEqProofs[Ku,f207,w1',h1,h2]
theorem abz (a b:List D)(h:a.length<=1000000)(h':b.length<=1000000):Ex E0 Ku (jV a b 1 (.ls (.loc 0) 1 6 0 a.length) [.row 1 6 a] .u) (.norm,jV a b 2 (.ls (.loc 0) 2 6 0 (a.length+b.length)) [.row 2 6 (a++b)] .u):=by
 have h1:(a.length+b.length)*80<=most:=by unfold most;omega
 have h2:a.length+b.length<=most:=by unfold most;omega
 refine Ex.of (n:=60) ?_;unfold jV qV;simp -implicitDefEqProofs[Ku,f207,w2',h1,h2]
theorem Qn (n m:Nat)(h0:0<n)(h:n<=2000000):CL E0 (m+100) 258 [.d (.n 6),.d (.v (.int .i64 n))] []=some (.ls (.old 0) 0 6 0 0,some [.row 0 6 (List.replicate n WO)]):=by
 have w0:ak .i64 0=0:=wrap_i64 (by omega);have wn:ak .i64 (n:Int)=n:=wrap_i64 (by omega);have g0:¬ ((n:Int)<0):=by omega
 have g1:(0:Int)<n:=by omega
 have h1:(n:Int)*80<=most:=by unfold most;omega
 have h2:(n:Int)<=most:=by unfold most;omega
 rw[aA rfl (k258:E0.fn _=_) rfl];simp -implicitDefEqProofs[f258,FV.az,ae.az,jq,Dx,w0,wn,g0,g1,h1,h2,WO,h0]
theorem Mr (a b:List D)(ha:a.length<=1000000)(hb:b.length<=1000000):∃ o,Ca E0 207 [qV a b] (.d (.s 6 (a++b)),o)/\(o=none\/∃ x,o=some [x]):=by
 have w0:ak .i64 0=0:=wrap_i64 (by omega);have hA:Ex E0 f207.body.l (st0 [qV a b,.u,.u,.u,.u,.u,.u,.u,.u,.u,.u,.u,.u,.u,.u] []) (.norm,(st0 [qV a b,.u,.u,.u,.u,.u,.u,.u,.u,.u,.u,.u,.u,.u,.u] [])):=by
  refine Ex.of (n:=60) ?_;unfold qV;simp -implicitDefEqProofs[f207]
 have hB:Ex E0 f207.body.r.l (st0 [qV a b,.u,.u,.u,.u,.u,.u,.u,.u,.u,.u,.u,.u,.u,.u] []) (.norm,(st0 [qV a b,.u,.d (.v (.int .i64 0)),.u,.u,.u,.u,.u,.u,.u,.u,.u,.u,.u,.u] [])):=by
  refine Ex.of (n:=60) ?_;unfold qV;simp -implicitDefEqProofs[f207]
 have hC:Ex E0 f207.body.r.r.l.l (st0 [qV a b,.u,.d (.v (.int .i64 0)),.u,.u,.u,.u,.u,.u,.u,.u,.u,.u,.u,.u] []) (.norm,pV a b 0 0 .u):=by
  refine Ex.of (n:=60) ?_;unfold qV pV qV;simp -implicitDefEqProofs[f207]
 have hL:=UY a b ha hb;have hN:∃ acc L,Ex E0 (.loop Ku) (jV a b 0 acc L .u) (.exit 2,jV a b 2 acc L .u)\/True:=⟨.u,[],.inr trivial⟩
 clear hN
 by_cases hn:a.length+b.length=0
 ·obtain rfl:a=[]:=List.eq_nil_of_length_eq_zero (by omega);obtain rfl:b=[]:=List.eq_nil_of_length_eq_zero (by omega);have hD:Ex E0 f207.body.r.r.r.l (pV [] [] 2 (0+0) (.d (.v (.bool false)))) (.norm,(st0 [qV [] [],.u,.u,.u,.d (.n 6),.u,.u,.u,.u,.u,.u,.u,.u,.u,.u] [])):=by
   have t:∀ m,CL E0 (m+100) 258 [.d (.n 6),.d (.v (.int .i64 0))] []=some (.d (.n 6),none):=by
    intro m;rw[aA rfl (k258:E0.fn _=_) rfl];simp -implicitDefEqProofs[f258,w0]
   refine Ex.of (n:=200) ?_;unfold pV qV;simp -implicitDefEqProofs[f207,t,FV.aN,FV.az,ae.az]
  have hE:Ex E0 f207.body.r.r.r.r.l.l (st0 [qV [] [],.u,.u,.u,.d (.n 6),.u,.u,.u,.u,.u,.u,.u,.u,.u,.u] []) (.norm,jV [] [] 0 (.d (.n 6)) [] .u):=by
   refine Ex.of (n:=60) ?_;unfold qV jV qV;simp -implicitDefEqProofs[f207]
  have hF:Ex E0 f207.body.r.r.r.r.r (jV [] [] 2 (.d (.n 6)) [] (.d (.v (.bool false)))) (.ret,(st0 [.u,.d (.n 6),.u,.u,.u,.u,.u,.u,.u,.u,.u,.u,.u,.u,.u] [])):=by
   refine Ex.of (n:=60) ?_;unfold jV qV;simp -implicitDefEqProofs[f207]
  have hM:Ex E0 (.loop Ku) (jV [] [] 0 (.d (.n 6)) [] .u) (.exit 2,jV [] [] 2 (.d (.n 6)) [] (.d (.v (.bool false)))) :=
   (Kv [] [] 0 (by omega) rfl rfl).next ((Kv [] [] 1 (by omega) rfl rfl).next ((WQ [] [] _ _ _).leave (by simp)))
  refine⟨none,Ca.body (o:=.ret) rfl (k207:E0.fn _=_) rfl ?_ (by intro id h;cases h) (st1:=(st0 [.u,.d (.n 6),.u,.u,.u,.u,.u,.u,.u,.u,.u,.u,.u,.u,.u] [])) ?_,.inl rfl⟩
  ·show Ex E0 (.seq f207.body.l (.seq f207.body.r.l (.seq (.seq f207.body.r.r.l.l (.block 0 (.loop UX))) (.seq f207.body.r.r.r.l (.seq (.seq f207.body.r.r.r.r.l.l (.block 2 (.loop Ku))) f207.body.r.r.r.r.r))))) _ _;exact hA.seq (hB.seq ((hC.seq hL.block).seq (hD.seq ((hE.seq hM.block).seq hF))))
  ·simp -implicitDefEqProofs[f207]
 ·have hD:Ex E0 f207.body.r.r.r.l (pV a b 2 (a.length+b.length) (.d (.v (.bool false)))) (.norm,(st0 [qV a b,.u,.u,.u,.ls (.loc 0) 0 6 0 0,.u,.u,.u,.u,.u,.u,.u,.u,.u,.u] [.row 0 6 (List.replicate (a.length+b.length) WO)])):=by
   have t:=fun m=>Qn (a.length+b.length) m (by omega) (by omega)
   refine Ex.of (n:=200) ?_;unfold pV qV;generalize a.length+b.length=n at*;generalize List.replicate n WO=R at*;simp -implicitDefEqProofs[f207,t,FV.aN,FV.az,ae.az]
  have hE:Ex E0 f207.body.r.r.r.r.l.l (st0 [qV a b,.u,.u,.u,.ls (.loc 0) 0 6 0 0,.u,.u,.u,.u,.u,.u,.u,.u,.u,.u] [.row 0 6 (List.replicate (a.length+b.length) WO)]) (.norm,jV a b 0 (.ls (.loc 0) 0 6 0 0) [.row 0 6 (List.replicate (a.length+b.length) WO)] .u):=by
   refine Ex.of (n:=60) ?_;unfold qV jV qV;generalize List.replicate (a.length+b.length) WO=R at*;simp -implicitDefEqProofs[f207]
  have hF:Ex E0 f207.body.r.r.r.r.r (jV a b 2 (.ls (.loc 0) 2 6 0 (a.length+b.length)) [.row 2 6 (a++b)] (.d (.v (.bool false)))) (.ret,(st0 [.u,.ls (.loc 0) 2 6 0 (a.length+b.length),.u,.u,.u,.u,.u,.u,.u,.u,.u,.u,.u,.u,.u] ([.row 2 6 (a++b)]))):=by
   refine Ex.of (n:=60) ?_;unfold jV qV;simp -implicitDefEqProofs[f207]
  have hM:Ex E0 (.loop Ku) (jV a b 0 (.ls (.loc 0) 0 6 0 0) [.row 0 6 (List.replicate (a.length+b.length) WO)] .u) (.exit 2,jV a b 2 (.ls (.loc 0) 2 6 0 (a.length+b.length)) [.row 2 6 (a++b)] (.d (.v (.bool false)))) :=
   (aby a b _ ha).next ((abz a b ha hb).next ((WQ a b _ _ _).leave (by simp)))
  refine⟨none,Ca.body (o:=.ret) rfl (k207:E0.fn _=_) rfl ?_ (by intro id h;cases h) (st1:=(st0 [.u,.ls (.loc 0) 2 6 0 (a.length+b.length),.u,.u,.u,.u,.u,.u,.u,.u,.u,.u,.u,.u,.u] ([.row 2 6 (a++b)]))) ?_,.inl rfl⟩
  ·show Ex E0 (.seq f207.body.l (.seq f207.body.r.l (.seq (.seq f207.body.r.r.l.l (.block 0 (.loop UX))) (.seq f207.body.r.r.r.l (.seq (.seq f207.body.r.r.r.r.l.l (.block 2 (.loop Ku))) f207.body.r.r.r.r.r))))) _ _;exact hA.seq (hB.seq ((hC.seq hL.block).seq (hD.seq ((hE.seq hM.block).seq hF))))
  ·have e1:ae.view 2 6 0 (a.length+b.length) (.row 2 6 (a++b))=some (a++b):=by
    have:List.take (a.length+b.length) (a++b)=a++b:=by rw[<-List.length_append,List.take_length]
    simp[ae.view,this]
   clear hA hB hC hL hD hE hF hM hn;simp -implicitDefEqProofs[f207,e1,FV.az,ae.az]
def bF (l:List bN):D:=.s 6 (l.map fun p=>qC p.1 p.2)
def rM (p:bN):Mo:=⟨p.1,qs p.2,qn p.2,qd p.2⟩
theorem D9 (l:List bN):bF l=PD (l.map rM):=by
 unfold bF PD;rw[List.map_map];rfl
theorem Qo {l:List bN}:uF l=bF (canon l):=by
 unfold uF bF canon;have h1:l.flatMap dP=(l.filter fun p=>decide (p.2≠0)).map fun p=>qC p.1 p.2:=by
  induction l with
  | nil=>rfl
  | cons p r ih =>
   by_cases hp:p.2=0
   ·rw[List.filter_cons_of_neg (by simpa using hp)];simp[List.flatMap_cons,dP,hp,ih]
   ·rw[List.filter_cons_of_pos (by simpa using hp)];simp[List.flatMap_cons,dP,hp,ih]
 rw[h1,<-List.map_mergeSort (r:=fun a b => !jh b.1 a.1)];intro a _ b _;rfl
theorem UZ {S:Nat}{l:List bN}(h:Bd S l){e:jA}{y:Rat}(hy:kK l e=some y):qz y<=S:=h _ (zX hy)
def paL:aD:=f155.body.r.r.l.r.bl.lp
def Ms (es:List D)(k:Nat)(L:List ae)(t:FV):St:=(st0 [.u,.u,.u,.m (.loc 0),.u,.d (.s 6 es),.d (.v (.int .i64 es.length)),.d (.v (.int .i64 k)),t] L)
theorem Qp (es:List D)(k:Nat)(L:List ae)(l:List bN)(p:bN)(hn:es.length<=1000000)(hk:es[k]?=some (qC p.1 p.2))(hL:L[0]?=some (.map (l.map ik)))(hp:qz p.2<=50000)(hl:Bd 50000 l)(hf:eF p.1=true) :
  ∃ L',Ex E1 paL (Ms es k L .u) (.norm,Ms es (k+1) L' .u)/\L'[0]?=some (.map ((pR l p.1 p.2).map ik)):=by
 obtain⟨e,x⟩:=p;have hkl:k<es.length:=(aT hk)
 have hB:(List.map (ae.az 0) (L++[ae.box [.d (.v (.int .i64 e.1)),.d (.v (.int .i64 e.2.1)),.d (.v (.int .i64 e.2.2)),.d (.v (.bool (qs x))),.d (LD (qn x)),.d (LD (qd x))]]))[0]?=some (.map (l.map ik)):=by
  cases L with
  | nil=>cases hL
  | cons o r=>simp only[List.getElem?_cons_zero,Option.some.injEq]at hL;subst hL;rfl
 obtain⟨N,B',t,hlen,hB'⟩:=Qf _ 0 l hB e x hp (fun y hy=>UZ hl hy) (Qm hf);refine⟨B',Ex.of (n:=N+200) ?_,hB'⟩;have aR:ak .i64 ((k:Int)+1)=(k:Int)+1:=wrap_i64 (by omega);have hk1:((k+1:Nat):Int)=(k:Int)+1:=by omega
 have hk0:(0:Int)<=(k:Int):=by omega
 have hkc:(k:Int)<(es.length:Int):=by omega
 clear hB hB' hlen hp hl hf;obtain⟨a,b,c⟩:=e;unfold Ms;rw[hk1];simp only[qC,F3,kH,qD,raw]at*;generalize qs x=s at*;simp only[LD]at*;generalize LL (qn x)=ns,LL (qd x)=ds at*;have i1:=idx hk;simp only[List.map_append,List.map_cons,List.map_nil,ae.az,FV.aN,FV.az]at t;simp -implicitDefEqProofs[paL,f155,aR,hk0,hkc,hk,i1,t,FV.az,FV.aN,ae.az]
theorem Qq {ms:List bN}{k:Nat}{p:bN}(h:ms[k]?=some p):gX [] (ms.take (k+1))=pR (gX [] (ms.take k)) p.1 p.2:=by
 rw[List.take_add_one,h];show gX [] (ms.take k++[p])=_;rw[Gb];rfl
theorem U0 (ms:List bN)(L:List ae)(S:Nat)(hn:ms.length<=1000000)(hL:L[0]?=some (.map []))(hf:Fits ms)(hb:Bd S ms)(hS:S<=50000)(hm:ms.length*(S+1)<=50000) :
  ∃ L',Ex E1 (.loop paL) (Ms (ms.map fun p=>qC p.1 p.2) 0 L .u) (.exit 0,Ms (ms.map fun p=>qC p.1 p.2) ms.length L' (.d (.v (.bool false))))/\L'[0]?=some (.map ((gX [] ms).map ik)):=by
 have hlen:(ms.map fun p=>qC p.1 p.2).length=ms.length:=by simp
 obtain⟨r,h1,L',h2,h3⟩:=Ex.inv (E:=E1) (b:=paL) (α:=Nat × List ae) (S:=fun a=>Ms (ms.map fun p=>qC p.1 p.2) a.1 a.2 .u) (fun a=>ms.length-a.1)
  (fun a=>a.1<=ms.length/\a.2[0]?=some (.map ((gX [] (ms.take a.1)).map ik))) (fun r=>∃ L',r=(.exit 0,Ms (ms.map fun p=>qC p.1 p.2) ms.length L' (.d (.v (.bool false))))/\L'[0]?=some (.map ((gX [] ms).map ik))) (by
   rintro⟨k,L⟩ ⟨q1,q2⟩;simp only at q1 q2
   by_cases hk:k<ms.length
   ·have hp:ms[k]?=some ms[k]:=List.getElem?_eq_getElem hk;have hpm:ms[k] ∈ ms:=List.getElem_mem hk;have hp2:(ms.map fun p=>qC p.1 p.2)[k]?=some (qC ms[k].1 ms[k].2):=by rw[List.getElem?_map,hp];rfl
    have hbd:Bd 50000 (gX [] (ms.take k)):=by
     refine(Jc (S:=0) (T:=S) (fun p hp=>by cases hp) (fun p hp=>hb p (List.mem_of_mem_take hp))).mono ?_;rw[List.length_take,Nat.zero_add];exact Nat.le_trans (Nat.mul_le_mul_right _ (Nat.min_le_right _ _)) hm
    obtain⟨L',g1,g2⟩:=Qp _ k L _ ms[k] (by rw[hlen];exact hn) hp2 q2 (Nat.le_trans (hb _ hpm) hS) hbd (hf _ hpm);refine .inl ⟨(k+1,L'),g1,by show ms.length-(k+1)<ms.length-k;omega,by show k+1<=_;omega,?_⟩;show L'[0]?=some (.map ((gX [] (ms.take (k+1))).map ik));rw[Qq hp];exact g2
   ·obtain rfl:k=ms.length:=by omega
    rw[List.take_length]at q2;refine .inr ⟨_,Ex.of (n:=60) ?_,?_,L,rfl,q2⟩
    ·simp only[Ms,hlen];generalize (ms.map fun p=>qC p.1 p.2)=es,ms.length=n at*;simp -implicitDefEqProofs[paL,f155]
    ·simp) (0,L) ⟨Nat.zero_le _,hL⟩
 subst h2;exact⟨L',h1,h3⟩
theorem yH {S:Nat}:∀ {l:List bN} {q:Option Mo},PV S l->(∀ m,q=some m->∀ p ∈ l,jh m.e p.1=true)->ui q (l.map rM)=true
 | [],_,_,_=>by simp[ui]
 | p::l,q,h,hq=>by
  have hs:=List.pairwise_cons.1 h.N_;have hfit:(rM p).fits=true:=by
   unfold Mo.fits rM;have h1:=h.fits p (List.mem_cons_self ..);have h2:qn p.2≠[]:=by
    have h3:=h.nz p (List.mem_cons_self ..);intro h4;have h5:p.2.num.natAbs=0:=by
     have:=aS (p.2.num.natAbs);unfold qn at h4;rw[h4]at this;simpa[val] using this.symm
    exact h3 (Rat.num_eq_zero.1 (Int.natAbs_eq_zero.1 h5))
   simp[h1,h2,qL]
  have hr:ui (some (rM p)) (l.map rM)=true:=yH (S:=S) ⟨hs.2,fun x hx=>h.nz x (List.mem_cons_of_mem _ hx),fun x hx=>h.fits x (List.mem_cons_of_mem _ hx),fun x hx=>h.bd x (List.mem_cons_of_mem _ hx)⟩ (fun m hm x hx=>by cases hm;exact hs.1 x hx);cases q with
  | none=>simp only[List.map_cons,ui,hfit,hr,Bool.and_self]
  | some m =>
   have h6:gW m.e (rM p).e<0:=of_decide_eq_true (hq m rfl p (List.mem_cons_self ..));simp only[List.map_cons,ui,hfit,hr,decide_eq_true h6,Bool.and_self]
theorem Qr {S:Nat}{l:List bN}(h:PV S l)(hS:S<=1000):Po (l.map rM):=by
 refine⟨fun m hm => ?_,by have:=h.length;simp;omega⟩;obtain⟨p,hp,rfl⟩:=List.mem_map.1 hm;have hb:=h.bd p hp;have h1:(qn p.2).length<=qz p.2:=Nat.le_max_left _ _;have h2:(qd p.2).length<=qz p.2:=by
  unfold qd;split
  ·simp
  ·exact Nat.le_max_right _ _
 exact⟨DK _,DL _,Nat.le_trans h1 (Nat.le_trans hb hS),Nat.le_trans h2 (Nat.le_trans hb hS)⟩
theorem Ct {S:Nat}{l:List bN}(h:PV S l)(hS:S<=1000):Ca E1 208 [.d (bF l)] (.d (bF l),none):=by
 have h1:=Cg _ (Qr h hS);rw[yH h (fun m hm=>by cases hm),<-D9]at h1;obtain⟨N,t⟩:=(Ca.iP h1).get;refine Ca.bO (n:=N+60) ?_;rw[aA rfl (k208:E1.fn _=_) rfl];unfold bF at*;generalize (l.map fun p=>qC p.1 p.2)=es at*;simp -implicitDefEqProofs[f208,t]
theorem Jd {S:Nat}{ms:List bN}(hf:Fits ms)(hb:Bd S ms)(hm:ms.length*(S+1)<=50000):wC (gX [] ms)=true:=by
 have hk:Keys (gX [] ms):=zY keys_nil;have hF:Fits (gX [] ms):=zZ (fun p hp=>by cases hp) hf;have hB:Bd (0+ms.length*(S+1)) (gX [] ms):=Jc (fun p hp=>by cases hp) hb;have hl:=xB hk hF;unfold wC;simp only[Bool.and_eq_true,decide_eq_true_eq,List.all_eq_true];exact⟨⟨hk,fun p hp=>by have:=hB p hp;omega⟩,by omega⟩
theorem Mt {S:Nat}{L:List ae}{ms:List bN}(hL:L[0]?=some (.map ((gX [] ms).map ik)))(hf:Fits ms)(hb:Bd S ms)(hm:ms.length*(S+1)<=50000)(m:Nat) :
  CL E1 m 206 [.m (.old 0)] (List.map (ae.az 0) L)=some (.d (bF (canon (gX [] ms))),none):=by
 have hB:(List.map (ae.az 0) L)[0]?=some (.map ((gX [] ms).map ik)):=by rw[List.getElem?_map,hL];rfl
 rw[Mm m 0 _ _ hB (Jd hf hb hm),Qo]
theorem U1 {S:Nat}{a b:List bN}(ha:PV S a)(hb:PV S b)(hS:S<=1000)(hm:(a++b).length*(S+1)<=50000):Ca E1 155 [.d (bF a),.d (bF b)] (.d (bF (jB a b)),none):=by
 have hf:Fits (a++b):=fun p hp=>by
  rcases List.mem_append.1 hp with hp|hp
  ·exact ha.fits p hp
  ·exact hb.fits p hp
 have hB:Bd S (a++b):=fun p hp=>by
  rcases List.mem_append.1 hp with hp|hp
  ·exact ha.bd p hp
  ·exact hb.bd p hp
 have la:=ha.length;have lb:=hb.length;have hlen:(a++b).length<=1000000:=by rw[List.length_append];omega
 obtain⟨N1,t1⟩:=(Ct ha hS).any;obtain⟨N2,t2⟩:=(Ct hb hS).any;obtain⟨o,hc,ho⟩:=Mr (a.map fun p=>qC p.1 p.2) (b.map fun p=>qC p.1 p.2) (by simp;omega) (by simp;omega);obtain⟨N3,t3⟩:=(Ca.iP hc).any;obtain⟨M,hM⟩:∃ M,M=N1+N2+N3:=⟨_,rfl⟩
 replace t1:=t1 M (by omega);replace t2:=t2 M (by omega);replace t3:=t3 M (by omega);have e1:(a.map fun p=>qC p.1 p.2)++(b.map fun p=>qC p.1 p.2)=(a++b).map fun p=>qC p.1 p.2:=by simp
 rw[e1]at t3;have hAB:Ex E1 f155.body.l (st0 [.d (bF a),.d (bF b),.u,.u,.u,.u,.u,.u,.u] []) (.norm,(st0 [.d (bF a),.d (bF b),.u,.u,.u,.u,.u,.u,.u] [])):=by
  refine Ex.of (n:=60) ?_;generalize bF a=x1;generalize bF b=x2;simp -implicitDefEqProofs[f155]
 have hMk:Ex E1 f155.body.r.l (st0 [.d (bF a),.d (bF b),.u,.u,.u,.u,.u,.u,.u] []) (.norm,(st0 [.d (bF a),.d (bF b),.u,.m (.loc 0),.u,.u,.u,.u,.u] [.map []])):=by
  refine Ex.of (n:=60) ?_;generalize bF a=x1;generalize bF b=x2;simp -implicitDefEqProofs[f155]
 have hC:∃ L,L[0]?=some (.map [])/\Ex E1 f155.body.r.r.l.l (st0 [.d (bF a),.d (bF b),.u,.m (.loc 0),.u,.u,.u,.u,.u] [.map []]) (.norm,Ms ((a++b).map fun p=>qC p.1 p.2) 0 L .u):=by
  rcases ho with rfl|⟨x,rfl⟩
  ·refine⟨[.map []],rfl,Ex.of (n:=M+100) ?_⟩;unfold bF Ms qV at*;generalize ((a++b).map fun p=>qC p.1 p.2)=es,(a.map fun p=>qC p.1 p.2)=es1,(b.map fun p=>qC p.1 p.2)=es2 at*;simp -implicitDefEqProofs[f155,t1,t2,t3]
  ·refine⟨[.map [],ae.shift 1 x],rfl,Ex.of (n:=M+100) ?_⟩;unfold bF Ms qV at*;generalize ((a++b).map fun p=>qC p.1 p.2)=es,(a.map fun p=>qC p.1 p.2)=es1,(b.map fun p=>qC p.1 p.2)=es2 at*;simp -implicitDefEqProofs[f155,t1,t2,t3]
 obtain⟨L,hL,hC⟩:=hC;obtain⟨L',hl,hL'⟩:=U0 (a++b) L S hlen hL hf hB (by omega) hm;have t4:=fun m=>Mt hL' hf hB hm m
 have Kw:bF (canon (gX [] (a++b)))=bF (jB a b):=rfl;rw[Kw]at t4;have hD:Ex E1 f155.body.r.r.r (Ms ((a++b).map fun p=>qC p.1 p.2) (a++b).length L' (.d (.v (.bool false)))) (.ret,(st0 [.u,.u,.d (bF (jB a b)),.u,.u,.u,.u,.u,.u] (L'))):=by
  refine Ex.of (n:=100) ?_;unfold bF Ms at*;generalize ((a++b).map fun p=>qC p.1 p.2)=es,((jB a b).map fun p=>qC p.1 p.2)=es1 at*;simp -implicitDefEqProofs[f155,t4,FV.az,FV.aN]
 refine Ca.body (o:=.ret) (st1:=(st0 [.u,.u,.d (bF (jB a b)),.u,.u,.u,.u,.u,.u] (L'))) rfl (k155:E1.fn _=_) rfl ?_ (by intro id h;cases h) ?_
 ·show Ex E1 (.seq f155.body.l (.seq f155.body.r.l (.seq (.seq f155.body.r.r.l.l (.block 0 (.loop paL))) f155.body.r.r.r))) _ _;exact hAB.seq (hMk.seq ((hC.seq hl.block).seq hD))
 ·unfold bF;generalize ((jB a b).map fun p=>qC p.1 p.2)=es1 at*;simp -implicitDefEqProofs[f155]
def qW (p:bN):ae:=.box [.d (.v (.int .i64 p.1.1)),.d (.v (.int .i64 p.1.2.1)),.d (.v (.int .i64 p.1.2.2)),.d (.v (.bool (qs p.2))),.d (LD (qn p.2)),.d (LD (qd p.2))]
end Fi.S
namespace Fi.S
open Go Fi
theorem yI:∀ {l:List bN},Keys l->∀ {p:bN},p ∈ l->tot l p.1=p.2
 | [],_,_,hp=>by cases hp
 | (a,y)::r,h,p,hp=>by
  unfold Keys at h;simp only[List.map_cons,List.nodup_cons]at h;rcases List.mem_cons.1 hp with h0|hp2
  ·subst h0;have hr:∀ x ∈ r,x.1≠a:=fun x hx he=>h.1 (he ▸ List.mem_map.2 ⟨x,hx,rfl⟩)
   simp only[tot,if_true,l5 hr];grind
  ·have h1:¬ a=p.1:=fun he=>h.1 (he ▸ List.mem_map.2 ⟨p,hp2,rfl⟩)
   simp only[tot,if_neg h1,yI h.2 hp2];grind
theorem D_ {S:Nat}(hS:1<=S){l:List bN}(h:Keys l)(hb:Bd S l)(e:jA):qz (tot l e)<=S:=by
 cases hg:kK l e with
 | none =>
  rw[l5 (Mq hg)];exact Nat.le_trans nL hS
 | some y =>
  have h1:=zX hg;have h2:=yI h h1;simp only at h2;rw[h2];exact hb _ h1
theorem Qt {S:Nat}{l:List bN}(hk:Keys l)(hf:Fits l)(hb:∀ e,qz (tot l e)<=S):PV S (canon l):=by
 refine⟨Cs hk,Qk l,fun p hp=>hf p (Cr.1 hp).1,fun p hp => ?_⟩;have:=yI (lD (Cs hk)) hp;rw[Cq]at this;rw[<-this];exact hb _
theorem Ea (l:List bN):(canon l).length<=l.length:=by
 unfold canon;rw[List.length_mergeSort];exact List.length_filter_le _ _
theorem z_ {S T:Nat}(hS:1<=S)(hT:1<=T){a b:List bN}(ha:PV S a)(hb:PV T b):PV (S+T+1) (jB a b):=by
 refine Qt (zY keys_nil) (zZ (fun p hp=>by cases hp) ?_) fun e => ?_
 ·intro p hp;rcases List.mem_append.1 hp with hp|hp
  ·exact ha.fits p hp
  ·exact hb.fits p hp
 ·have h1:tot (gX [] (a++b)) e=tot a e+tot b e:=by
   rw[D8 keys_nil,zW];simp only[tot];grind
  rw[h1];have h2:=vZ (tot a e) (tot b e);have h3:=D_ hS (lD ha.N_) ha.bd e;have h4:=D_ hT (lD hb.N_) hb.bd e;omega
theorem Gf (a b:List bN):(jB a b).length<=a.length+b.length:=by
 have h1:=Ea (gX [] (a++b));have h2:=z8 (ms:=a++b) (l:=[]);rw[List.length_append]at h2;show(canon (gX [] (a++b))).length<=_;simp only[List.length_nil]at h2;omega
end Fi.S
