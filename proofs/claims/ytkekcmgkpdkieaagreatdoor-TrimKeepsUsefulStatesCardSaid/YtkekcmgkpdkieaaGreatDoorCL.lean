import Derived.Test.YtkekcmgkpdkieaaGreatDoorCH
import Derived.Test.YtkekcmgkpdkieaaGreatDoorCF
set_option linter.unusedVariables false
set_option linter.unusedSimpArgs false
noncomputable section
namespace Fi.S
open Go Fi
abbrev jQ:Type:=Int × Int × Int
def tot:List bS->jQ->Rat
 | [],_=>0
 | (a,y)::r,e=>(if a=e then y else 0)+tot r e
theorem Bc (a b:List bS)(e:jQ):tot (a++b) e=tot a e+tot b e:=by
 induction a with
 | nil=>simp[tot,Rat.zero_add]
 | cons p r ih=>simp only[Q30,tot,ih];grind
theorem R_ {a b:List bS}(h:a.Perm b)(e:jQ):tot a e=tot b e:=by
 induction h with
 | nil=>rfl
 | cons p _ ih=>simp only[tot,ih]
 | swap p q l=>simp only[tot];grind
 | trans _ _ h1 h2=>rw[h1,h2]
theorem mY {l:List bS}{e:jQ}(h:∀ p ∈ l,p.1≠e):tot l e=0:=by
 induction l with
 | nil=>rfl
 | cons p r ih =>
  have h1:=h p (Qi0 ..);have h2:=ih (fun q hq=>h q (Qf1 _ hq));simp only[tot,if_neg h1,h2];grind
theorem KA (l:List bS)(e:jQ):tot (l.filter fun p=>decide (p.2≠0)) e=tot l e:=by
 induction l with
 | nil=>rfl
 | cons p r ih =>
  obtain⟨a,y⟩:=p
  by_cases hy:y=0
  ·subst hy;rw[Xe1 aC];simp only[tot,ih]
   by_cases h:a=e<;>simp[h,Rat.zero_add]
  ·rw[Xe2 (by simpa using hy)];simp only[tot,ih]
theorem Oo {l:List bS}{e:jQ}(h:lH l e=none):∀ p ∈ l,p.1≠e:=by
 induction l with
 | nil=>intro p hp;cases hp
 | cons q r ih =>
  intro p hp;unfold lH at h;split at h
  ·cases h
  ·rename_i hne;rcases Qg1.1 hp with rfl|hp
   ·exact fun he=>hne he.symm
   ·exact ih h p hp
theorem Be {l:List bS}{e:jQ}{y:Rat}(h:lH l e=some y):(e,y) ∈ l:=by
 induction l with
 | nil=>cases h
 | cons q r ih =>
  unfold lH at h;split at h
  ·rename_i he;cases h;subst he;exact Qi0 ..
  ·exact Qf1 _ (ih h)
theorem Sa {l:List bS}{e:jQ}{y:Rat}{p:bS}(h:p ∈ uw l e y):p=(e,y)\/p ∈ l:=by
 induction l with
 | nil=>simp only[uw,Xc1]at h;exact .inl h
 | cons q r ih =>
  unfold uw at h;split at h
  ·rcases Qg1.1 h with rfl|h
   ·exact .inl rfl
   ·exact .inr (Qf1 _ h)
  ·rcases Qg1.1 h with rfl|h
   ·exact .inr (Qi0 ..)
   ·rcases ih h with h|h
    ·exact .inl h
    ·exact .inr (Qf1 _ h)
theorem D7 (l:List bS)(e:jQ)(y:Rat):(uw l e y).map (·.1)=l.map (·.1)\/((∀ p ∈ l,p.1≠e)/\(uw l e y).map (·.1)=l.map (·.1)++[e]):=by
 induction l with
 | nil=>exact .inr ⟨aC,rfl⟩
 | cons q r ih =>
  obtain⟨a,x⟩:=q;unfold uw
  by_cases h:e=a
  ·subst h;left;simp
  ·rw[if_neg h];rcases ih with ih|⟨h1,ih⟩
   ·left;simp only[Qe1,ih]
   ·right
    refine⟨fun p hp => ?_,by simp only[Qe1,ih,Q30]⟩;rcases Qg1.1 hp with rfl|hp
    ·exact fun he=>h he.symm
    ·exact h1 p hp
def Keys (l:List bS):Prop:=(l.map (·.1)).Nodup
theorem Sb {l:List bS}(h:Keys l)(e:jQ)(y:Rat):Keys (uw l e y):=by
 unfold Keys at*;rcases D7 l e y with h1|⟨h1,h2⟩
 ·rw[h1];exact h
 ·rw[h2,List.nodup_append];refine⟨h,aC,?_⟩;intro a ha b hb;simp only[Xc1]at hb;subst hb;obtain⟨p,hp,rfl⟩:=Qj2.1 ha;exact h1 p hp
theorem Xx {l:List bS}(h:Keys l)(e:jQ)(y:Rat)(e':jQ):tot (uw l e y) e'=if e=e' then y else tot l e':=by
 induction l with
 | nil=>simp only[uw,tot];split<;>grind
 | cons q r ih =>
  obtain⟨a,x⟩:=q;unfold Keys at h ih;simp only[Qe1,List.nodup_cons]at h;have hr:∀ p ∈ r,p.1≠a:=fun p hp he=>h.1 (he ▸ Qj2.2 ⟨p,hp,rfl⟩)
  unfold uw
  by_cases he:e=a
  ·subst he;rw[if_pos rfl];simp only[tot]
   by_cases h2:e=e'
   ·subst h2;simp only[if_pos,mY hr];grind
   ·simp only[if_neg h2]
  ·rw[if_neg he];simp only[tot,ih h.2]
   by_cases h2:e=e'
   ·subst h2;have:¬ a=e:=fun h3=>he h3.symm
    simp only[if_neg this,if_true];grind
   ·simp only[if_neg h2]
theorem Sc {l:List bS}(h:Keys l)(e:jQ):(lH l e).getD 0=tot l e:=by
 induction l with
 | nil=>rfl
 | cons q r ih =>
  obtain⟨a,x⟩:=q;unfold Keys at h ih;simp only[Qe1,List.nodup_cons]at h;have hr:∀ p ∈ r,p.1≠a:=fun p hp he=>h.1 (he ▸ Qj2.2 ⟨p,hp,rfl⟩)
  unfold lH
  by_cases he:e=a
  ·subst he;simp only[if_true,Q31,tot,mY hr];grind
  ·have h2:¬ a=e:=fun h3=>he h3.symm
   rw[if_neg he];simp only[tot,if_neg h2,ih h.2];grind
theorem H7 {l:List bS}(h:Keys l)(e:jQ)(c:Rat):Keys (qY l e c):=Sb h e _
theorem Xy {l:List bS}(h:Keys l)(e:jQ)(c:Rat)(e':jQ):tot (qY l e c) e'=tot l e'+if e=e' then c else 0:=by
 unfold qY;rw[Xx h,Sc h]
 by_cases h2:e=e'
 ·subst h2;simp
 ·simp only[if_neg h2];grind
theorem dW (e:jQ):jG e e=false:=by
 cases h:jG e e with
 | false=>rfl
 | true=>rw[lG]at h;omega
theorem lV {a b c:jQ}(h1:jG a b=true)(h2:jG b c=true):jG a c=true:=by
 rw[lG]at*;omega
def ZG (l:List bS):Prop:=l.Pairwise fun a b=>jG a.1 b.1=true
def Nz (l:List bS):Prop:=∀ p ∈ l,p.2≠0
theorem l_ {l:List bS}(h:ZG l):Keys l:=by
 unfold Keys;rw[Xq2,List.pairwise_map];refine h.imp ?_;intro a b hab he;rw[he,dW]at hab;cases hab
theorem Mm:∀ {l m:List bS},ZG l->ZG m->Nz l->Nz m->(∀ e,tot l e=tot m e)->l=m
 | [],[],_,_,_,_,_=>rfl
 | [],(b,y)::m,_,hm,_,hn,h=>by
  have h1:=h b;have h2:tot m b=0:=mY fun p hp he=>by
   have:=(Qn2.1 hm).1 p hp;rw[he,dW]at this;cases this
  have h3:=hn (b,y) (Qi0 ..);simp only[tot,if_true,h2]at h1;grind
 | (a,x)::l,[],hl,_,hn,_,h=>by
  have h1:=h a;have h2:tot l a=0:=mY fun p hp he=>by
   have:=(Qn2.1 hl).1 p hp;rw[he,dW]at this;cases this
  have h3:=hn (a,x) (Qi0 ..);simp only[tot,if_true,h2]at h1;grind
 | (a,x)::l,(b,y)::m,hl,hm,hn,hk,h=>by
  have hl':=Qn2.1 hl;have hm':=Qn2.1 hm;have zl:∀ e,(e=a\/jG e a=true)->tot l e=0:=fun e he=>mY fun p hp hpe=>by
   have h1:=hl'.1 p hp;simp only at h1;rw[hpe]at h1;rcases he with rfl|he
   ·rw[dW]at h1;cases h1
   ·have:=lV h1 he;rw[dW]at this;cases this
  have zm:∀ e,(e=b\/jG e b=true)->tot m e=0:=fun e he=>mY fun p hp hpe=>by
   have h1:=hm'.1 p hp;simp only at h1;rw[hpe]at h1;rcases he with rfl|he
   ·rw[dW]at h1;cases h1
   ·have:=lV h1 he;rw[dW]at this;cases this
  have hx:=hn (a,x) (Qi0 ..);have hy:=hk (b,y) (Qi0 ..);have hab:a=b:=by
   cases h1:jG a b with
   | true =>
    have e1:=h a;have hne:¬ b=a:=fun h2=>by rw[h2,dW]at h1;cases h1
    simp only[tot,if_true,if_neg hne,zl a (.inl rfl),zm a (.inr h1)]at e1;grind
   | false =>
    cases h2:jG b a with
    | true =>
     have e1:=h b;have hne:¬ a=b:=fun h3=>by rw[h3,dW]at h2;cases h2
     simp only[tot,if_true,if_neg hne,zm b (.inl rfl),zl b (.inr h2)]at e1;grind
    | false=>exact jP h1 h2
  subst hab;have hxy:x=y:=by
   have e1:=h a;simp only[tot,if_true,zl a (.inl rfl),zm a (.inl rfl)]at e1;grind
  subst hxy;have:l=m:=Mm hl'.2 hm'.2 (fun p hp=>hn p (Qf1 _ hp)) (fun p hp=>hk p (Qf1 _ hp)) (fun e=>by
   have e1:=h e;simp only[tot]at e1;grind)
  rw[this]
def canon (l:List bS):List bS:=(l.filter fun p=>decide (p.2≠0)).mergeSort fun a b => !jG b.1 a.1
theorem D8 (l:List bS)(e:jQ):tot (canon l) e=tot l e:=by
 unfold canon;rw[R_ (Q02 _ _),KA]
theorem D9 {l:List bS}{p:bS}:p ∈ canon l↔p ∈ l/\p.2≠0:=by
 unfold canon;rw[(Q02 _ _).mem_iff];simp
theorem Sd (l:List bS):Nz (canon l):=fun p hp=>(D9.1 hp).2
theorem D_ {l:List bS}(h:Keys l):ZG (canon l):=by
 have h1:((canon l).map (·.1)).Nodup:=by
  have hp:(canon l).Perm (l.filter fun p=>decide (p.2≠0)):=Q02 _ _;refine((hp.map (·.1)).nodup_iff).2 ?_;exact X51 (List.filter_sublist.map _) h
 have h2:(canon l).Pairwise fun a b=>(!jG b.1 a.1)=true:=by
  refine Xu2 (fun a b c hab hbc => ?_) (fun a b => ?_) _
  ·simp only[Qo0,Bool.not_eq_eq_eq_not,Xh2]at*;cases h3:jG c.1 a.1 with
   | false=>rfl
   | true =>
    cases h4:jG b.1 c.1 with
    | true=>have:=lV h4 h3;rw[this]at hab;cases hab
    | false =>
     have:=jP h4 hbc;rw[this]at hab;rw[hab]at h3;cases h3
  ·cases h3:jG b.1 a.1 with
   | false=>rfl
   | true =>
    cases h4:jG a.1 b.1 with
    | false=>rfl
    | true=>have:=lV h3 h4;rw[dW]at this;cases this
 rw[Xq2,List.pairwise_map]at h1;refine(h1.and h2).imp ?_;rintro a b ⟨hne,hle⟩;simp only[Qo0,Bool.not_eq_eq_eq_not,Xh2]at hle;cases h3:jG a.1 b.1 with
 | true=>rfl
 | false=>exact absurd (jP h3 hle) hne
def iF (l ms:List bS):List bS:=ms.foldl (fun s p=>qY s p.1 p.2) l
theorem xG (l:List bS)(p:bS)(ms:List bS):iF l (p::ms)=iF (qY l p.1 p.2) ms:=rfl
theorem H8 (l a b:List bS):iF l (a++b)=iF (iF l a) b:=by simp[iF,Xv1]
theorem Bf:∀ {ms l:List bS},Keys l->Keys (iF l ms)
 | [],_,h=>h
 | p::ms,l,h=>Bf (ms:=ms) (H7 h p.1 p.2)
theorem Fu:∀ {ms l:List bS},Keys l->∀ e,tot (iF l ms) e=tot l e+tot ms e
 | [],l,h,e=>by simp only[iF,List.foldl_nil,tot];grind
 | p::ms,l,h,e=>by
  rw[xG,Fu (H7 h p.1 p.2),Xy h];simp only[tot];grind
theorem put_mem {l:List bS}{e:jQ}{c:Rat}{p:bS}(h:p ∈ qY l e c):p=(e,(lH l e).getD 0+c)\/p ∈ l:=Sa h
def Fits (l:List bS):Prop:=∀ p ∈ l,eZ p.1=true
def Bd (S:Nat)(l:List bS):Prop:=∀ p ∈ l,qz p.2<=S
theorem Bd.mono {S T:Nat}{l:List bS}(h:Bd S l)(hST:S<=T):Bd T l:=fun p hp=>Qe2 (h p hp) hST
theorem Sg {l:List bS}(h:Fits l){e:jQ}(he:eZ e=true)(c:Rat):Fits (qY l e c):=by
 intro p hp;rcases put_mem hp with rfl|hp
 ·exact he
 ·exact h p hp
theorem abb {S:Nat}{l:List bS}(h:Bd S l)(e:jQ){c:Rat}{T:Nat}(hc:qz c<=T):Bd (S+T+1) (qY l e c):=by
 intro p hp;rcases put_mem hp with rfl|hp
 ·show qz ((lH l e).getD 0+c)<=_;cases hg:lH l e with
  | none =>
   have:(0:Rat)+c=c:=Rat.zero_add c;simp only[Option.getD_none,this];omega
  | some y =>
   have h1:=h _ (Be hg);have h2:=xx y c;simp only[Q31]at*;omega
 ·have:=h p hp;omega
theorem KC (l:List bS)(e:jQ)(c:Rat):(qY l e c).length<=l.length+1:=by
 have:((qY l e c).map (·.1)).length<=(l.map (·.1)).length+1:=by
  unfold qY;rcases D7 l e ((lH l e).getD 0+c) with h|⟨_,h⟩
  ·rw[h];omega
  ·rw[h];simp
 simpa using this
theorem Bg:∀ {ms l:List bS},Fits l->Fits ms->Fits (iF l ms)
 | [],_,h,_=>h
 | p::ms,l,h,hm=>Bg (ms:=ms) (Sg h (hm p (Qi0 ..)) p.2) (fun q hq=>hm q (Qf1 _ hq))
theorem KD {T:Nat}:∀ {ms l:List bS} {S:Nat},Bd S l->Bd T ms->Bd (S+ms.length*(T+1)) (iF l ms)
 | [],_,_,h,_=>h.mono aC
 | p::ms,l,S,h,hm=>by
  have:=KD (ms:=ms) (abb h p.1 (hm p (Qi0 ..))) (fun q hq=>hm q (Qf1 _ hq));rw[xG];refine this.mono ?_;rw[Qf2,Qu1];omega
theorem Bh:∀ {ms l:List bS},(iF l ms).length<=l.length+ms.length
 | [],_=>by simp[iF]
 | p::ms,l=>by
  have h1:=Bh (ms:=ms) (l:=qY l p.1 p.2);have h2:=KC l p.1 p.2;rw[xG,Qf2];omega
structure PV (S:Nat)(l:List bS):Prop where
 Qn:ZG l
 nz:Nz l
 fits:Fits l
 bd:Bd S l
theorem PV.mono {S T:Nat}{l:List bS}(h:PV S l)(hST:S<=T):PV T l:=⟨h.Qn,h.nz,h.fits,h.bd.mono hST⟩
theorem PV.nil (S:Nat):PV S []:=⟨List.Pairwise.nil,fun _ hp=>(by cases hp),fun _ hp=>(by cases hp),fun _ hp=>(by cases hp)⟩
theorem PV.ext {S T:Nat}{l m:List bS}(h:PV S l)(k:PV T m)(e:∀ e,tot l e=tot m e):l=m:=Mm h.Qn k.Qn h.nz k.nz e
theorem H9:∀ (n:Nat) (l:List Nat),l.Nodup->(∀ x ∈ l,x<n)->l.length<=n
 | 0,l,_,h=>by
  cases l with
  | nil=>simp
  | cons x r=>exact absurd (h x (Qi0 ..)) ae
 | n+1,l,hn,h=>by
  have h1:=H9 n (l.erase n) (hn.erase n) (fun x hx=>by
   have h2:=h x (List.mem_of_mem_erase hx);have h3:x≠n:=fun e=>by subst e;exact(List.Nodup.mem_erase_iff hn).1 hx |>.1 rfl
   omega)
  have h2:=List.length_erase_of_mem (a:=n) (l:=l)
  by_cases hm:n ∈ l
  ·have:=h2 hm;omega
  ·rw[List.erase_of_not_mem hm]at h1;omega
theorem oV {e:jQ}(h:eZ e=true):0<=e.1/\e.1<=5/\0<=e.2.1/\e.2.1<=5/\0<=e.2.2/\e.2.2<=5/\e.1+e.2.1+e.2.2<=5:=by
 unfold eZ kX at h;simp at h;omega
theorem Si {e:jQ}(h:eZ e=true):Ho e<=5:=by
 have h':=oV h;unfold eZ at h;simp only[Qa2]at h;rw[Aw h.1.1.1 h.1.1.2 h.1.2];omega
theorem yF {l:List bS}(hk:Keys l)(hf:Fits l):l.length<=216:=by
 have h1:(l.map fun p=>(36*p.1.1+6*p.1.2.1+p.1.2.2).toNat).Nodup:=by
  unfold Keys at hk;rw[Xq2,List.pairwise_map]at hk ⊢;refine(List.Pairwise.and_mem.1 hk).imp ?_;rintro a b ⟨ha,hb,hne⟩ he;apply hne;have h2:=oV (hf a ha);have h3:=oV (hf b hb);have:a.1.1=b.1.1/\a.1.2.1=b.1.2.1/\a.1.2.2=b.1.2.2:=ae;obtain⟨⟨x,y,z⟩,q⟩:=a;obtain⟨⟨x',y',z'⟩,q'⟩:=b;simp only at this;obtain⟨rfl,rfl,rfl⟩:=this;rfl
 have h2:=H9 216 _ h1 (fun x hx=>by
  obtain⟨p,hp,rfl⟩:=Qj2.1 hx;have:=oV (hf p hp);omega)
 simpa using h2
theorem PV.length {S:Nat}{l:List bS}(h:PV S l):l.length<=216:=yF (l_ h.Qn) h.fits
def jR (a b:List bS):List bS:=canon (iF [] (a++b))
theorem keys_nil:Keys []:=List.nodup_nil
theorem H_ (a b:List bS)(e:jQ):tot (jR a b) e=tot a e+tot b e:=by
 unfold jR;rw[D8,Fu keys_nil,Bc];simp only[tot];grind
set_option maxHeartbeats 8000000
def Xz:aF:=f207.body.r.r.l.r.bl.lp
def Mq:aF:=f207.body.r.r.r.r.l.r.bl.lp
def ZH:D:=.a [vI 0,vI 0,vI 0,vB false,.s 1 [],.s 1 []]
def su (a b:List D):FV:=.d (.s 1 [.s 6 a,.s 6 b])
def q8 (a b:List D)(k acc:Nat)(t:FV):St:=(st0 [su a b,.u,dI acc,.u,.u,.u,su a b,dI 2,dI k,t,.u,.u,.u,.u,.u] [])
def kF (a b:List D)(k:Nat)(acc:FV)(L:List ai)(t:FV)(dy:Bool:=false):St:={vars:=[.u,.u,.u,.u,acc,.u,.u,.u,.u,.u,.u,su a b,dI 2,dI k,t],base:=[],loc:=L,aQ:=dy}
theorem w1':av .i64 1=1:=wrap_i64 ae
theorem w2':av .i64 2=2:=wrap_i64 ae
theorem aem (a b:List D)(h:a.length<=1000000):Ex E0 Xz (q8 a b 0 0 .u) (.norm,q8 a b 1 a.length .u):=by
 have w:av .i64 (a.length:Int)=a.length:=wrap_i64 ae;have h0:¬ ((a.length:Int)<0):=ae;apply e6;unfold q8 su;simp[Xz,f207,w,h0,w1']
theorem aen (a b:List D)(h:a.length<=1000000)(h':b.length<=1000000):Ex E0 Xz (q8 a b 1 a.length .u) (.norm,q8 a b 2 (a.length+b.length) .u):=by
 have w:av .i64 ((a.length:Int)+(b.length:Int))=(a.length:Int)+(b.length:Int):=wrap_i64 ae;have h0:¬ ((a.length:Int)+(b.length:Int)<0):=ae;apply e6;unfold q8 su;simp only[Int.natCast_add];simp[Xz,f207,w,h0,w2']
theorem aeo (a b:List D)(n:Nat):Ex E0 Xz (q8 a b 2 n .u) (.exit 0,q8 a b 2 n (dB false)):=by
 apply e6;unfold q8 su;simp[Xz,f207]
theorem XA (a b:List D)(h:a.length<=1000000)(h':b.length<=1000000):Ex E0 (.loop Xz) (q8 a b 0 0 .u) (.exit 0,q8 a b 2 (a.length+b.length) (dB false)) :=
 (aem a b h).next ((aen a b h h').next ((aeo a b _).leave aC))
theorem ZI (a b:List D)(acc:FV)(L:List ai)(dy:Bool):Ex E0 Mq (kF a b 2 acc L .u dy) (.exit 2,kF a b 2 acc L (dB false) dy):=by
 apply e6;unfold kF su;simp[Mq,f207]
theorem Mr (a b:List D)(k:Nat)(hk:k<2)(ha:a=[])(hb:b=[]):Ex E0 Mq (kF a b k (.d (.n 6)) [] .u) (.norm,kF a b (k+1) (.d (.n 6)) [] .u):=by
 subst ha hb;apply e6;unfold kF su
 match k,hk with
 | 0,_=>simp[Mq,f207,w1',most]
 | 1,_=>simp[Mq,f207,w2',most]
theorem aep (a b R:List D)(h:a.length<=1000000):Ex E0 Mq (kF a b 0 (.ls (.loc 0) 0 6 0 0) [.row 0 6 R] .u) (.norm,kF a b 1 (.ls (.loc 0) 1 6 0 a.length) [.row 1 6 a] .u):=by
 have h1:a.length*80<=most:=by unfold most;omega
 have h2:a.length<=most:=by unfold most;omega
 apply e6;unfold kF su;simp[Mq,f207,w1',h1,h2]
theorem aer (a b:List D)(h:a.length<=1000000)(h':b.length<=1000000):Ex E0 Mq (kF a b 1 (.ls (.loc 0) 1 6 0 a.length) [.row 1 6 a] .u) (.norm,kF a b 2 (.ls (.loc 0) 2 6 0 (a.length+b.length)) [.row 2 6 (a++b)] .u):=by
 have h1:(a.length+b.length)*80<=most:=by unfold most;omega
 have h2:a.length+b.length<=most:=by unfold most;omega
 apply e6;unfold kF su;simp[Mq,f207,w2',h1,h2]
theorem Sj (n m:Nat)(h0:0<n)(h:n<=2000000):CL E0 (m+100) 258 [.d (.n 6),dI n] []=some (.ls (.old 0) 0 6 0 0,some [.row 0 6 (List.replicate n ZH)]):=by
 have w0:av .i64 0=0:=wrap_i64 ae;have wn:av .i64 (n:Int)=n:=wrap_i64 ae;have g0:¬ ((n:Int)<0):=ae;have g1:(0:Int)<n:=ae;have h1:(n:Int)*80<=most:=by unfold most;omega
 have h2:(n:Int)<=most:=by unfold most;omega
 rw[aB rfl (k258:E0.fn _=_) rfl];simp[f258,FV.aA,ai.aA,jL,ER,w0,wn,g0,g1,h1,h2,ZH,h0]
theorem Oq (a b:List D)(ha:a.length<=1000000)(hb:b.length<=1000000):∃ o,Ca E0 207 [su a b] (.d (.s 6 (a++b)),o)/\(o=none\/∃ x,o=some [x]):=by
 have w0:av .i64 0=0:=wrap_i64 ae;have hA:Ex E0 f207.body.l (st0 (su a b::JE) []) (.norm,(st0 (su a b::JE) [])):=by
  apply e6;unfold su;simp[f207]
 have hB:Ex E0 f207.body.r.l (st0 (su a b::JE) []) (.norm,(st0 (su a b::.u::dI 0::Nn) [])):=by
  apply e6;unfold su;simp[f207]
 have hC:Ex E0 f207.body.r.r.l.l (st0 (su a b::.u::dI 0::Nn) []) (.norm,q8 a b 0 0 .u):=by
  apply e6;unfold su q8 su;simp[f207]
 have hL:=XA a b ha hb;have hN:∃ acc L,Ex E0 (.loop Mq) (kF a b 0 acc L .u) (.exit 2,kF a b 2 acc L .u)\/True:=⟨.u,[],.inr trivial⟩
 clear hN
 by_cases hn:a.length+b.length=0
 ·obtain rfl:a=[]:=Qo1 ae;obtain rfl:b=[]:=Qo1 ae;have hD:Ex E0 f207.body.r.r.r.l (q8 [] [] 2 (0+0) (dB false)) (.norm,(st0 (su [] []::.u::.u::.u::.d (.n 6)::oD) [])):=by
   have t:∀ m,CL E0 (m+100) 258 [.d (.n 6),dI 0] []=some (.d (.n 6),none):=by
    intro m;rw[aB rfl (k258:E0.fn _=_) rfl];simp[f258,w0]
   refine Ex.of (n:=200) ?_;unfold q8 su;simp[f207,t,FV.aT,FV.aA,ai.aA]
  have hE:Ex E0 f207.body.r.r.r.r.l.l (st0 (su [] []::.u::.u::.u::.d (.n 6)::oD) []) (.norm,kF [] [] 0 (.d (.n 6)) [] .u):=by
   apply e6;unfold su kF su;simp[f207]
  have hF:Ex E0 f207.body.r.r.r.r.r (kF [] [] 2 (.d (.n 6)) [] (dB false)) (.ret,(st0 (.u::.d (.n 6)::Gu) [])):=by
   apply e6;unfold kF su;simp[f207]
  have hM:Ex E0 (.loop Mq) (kF [] [] 0 (.d (.n 6)) [] .u) (.exit 2,kF [] [] 2 (.d (.n 6)) [] (dB false)) :=
   (Mr [] [] 0 ae rfl rfl).next ((Mr [] [] 1 ae rfl rfl).next ((ZI [] [] _ _ _).leave aC))
  refine⟨none,Ca.body (o:=.ret) rfl (k207:E0.fn _=_) rfl ?_ (by intro id h;cases h) (st1:=(st0 (.u::.d (.n 6)::Gu) [])) ?_,.inl rfl⟩
  ·show Ex E0 (.seq f207.body.l (.seq f207.body.r.l (.seq (.seq f207.body.r.r.l.l (.block 0 (.loop Xz))) (.seq f207.body.r.r.r.l (.seq (.seq f207.body.r.r.r.r.l.l (.block 2 (.loop Mq))) f207.body.r.r.r.r.r))))) _ _;exact hA.seq (hB.seq ((hC.seq hL.block).seq (hD.seq ((hE.seq hM.block).seq hF))))
  ·simp[f207]
 ·have hD:Ex E0 f207.body.r.r.r.l (q8 a b 2 (a.length+b.length) (dB false)) (.norm,(st0 (su a b::.u::.u::.u::.ls (.loc 0) 0 6 0 0::oD) [.row 0 6 (List.replicate (a.length+b.length) ZH)])):=by
   have t:=fun m=>Sj (a.length+b.length) m ae ae
   refine Ex.of (n:=200) ?_;unfold q8 su;generalize a.length+b.length=n at*;generalize List.replicate n ZH=R at*;simp[f207,t,FV.aT,FV.aA,ai.aA]
  have hE:Ex E0 f207.body.r.r.r.r.l.l (st0 (su a b::.u::.u::.u::.ls (.loc 0) 0 6 0 0::oD) [.row 0 6 (List.replicate (a.length+b.length) ZH)]) (.norm,kF a b 0 (.ls (.loc 0) 0 6 0 0) [.row 0 6 (List.replicate (a.length+b.length) ZH)] .u):=by
   apply e6;unfold su kF su;generalize List.replicate (a.length+b.length) ZH=R at*;simp[f207]
  have hF:Ex E0 f207.body.r.r.r.r.r (kF a b 2 (.ls (.loc 0) 2 6 0 (a.length+b.length)) [.row 2 6 (a++b)] (dB false)) (.ret,(st0 (.u::.ls (.loc 0) 2 6 0 (a.length+b.length)::Gu) ([.row 2 6 (a++b)]))):=by
   apply e6;unfold kF su;simp[f207]
  have hM:Ex E0 (.loop Mq) (kF a b 0 (.ls (.loc 0) 0 6 0 0) [.row 0 6 (List.replicate (a.length+b.length) ZH)] .u) (.exit 2,kF a b 2 (.ls (.loc 0) 2 6 0 (a.length+b.length)) [.row 2 6 (a++b)] (dB false)) :=
   (aep a b _ ha).next ((aer a b ha hb).next ((ZI a b _ _ _).leave aC))
  refine⟨none,Ca.body (o:=.ret) rfl (k207:E0.fn _=_) rfl ?_ (by intro id h;cases h) (st1:=(st0 (.u::.ls (.loc 0) 2 6 0 (a.length+b.length)::Gu) ([.row 2 6 (a++b)]))) ?_,.inl rfl⟩
  ·show Ex E0 (.seq f207.body.l (.seq f207.body.r.l (.seq (.seq f207.body.r.r.l.l (.block 0 (.loop Xz))) (.seq f207.body.r.r.r.l (.seq (.seq f207.body.r.r.r.r.l.l (.block 2 (.loop Mq))) f207.body.r.r.r.r.r))))) _ _;exact hA.seq (hB.seq ((hC.seq hL.block).seq (hD.seq ((hE.seq hM.block).seq hF))))
  ·have e1:ai.view 2 6 0 (a.length+b.length) (.row 2 6 (a++b))=some (a++b):=by
    have:List.take (a.length+b.length) (a++b)=a++b:=by rw[<-Qb0,Qj0]
    simp[ai.view,this]
   clear hA hB hC hL hD hE hF hM hn;simp[f207,e1,FV.aA,ai.aA]
def bQ (l:List bS):D:=.s 6 (l.map fun p=>qC p.1 p.2)
def tK (p:bS):Mo:=⟨p.1,qs p.2,qn p.2,qd p.2⟩
theorem Fv (l:List bS):bQ l=PD (l.map tK):=by
 unfold bQ PD;rw[Xg0];rfl
theorem Sk {l:List bS}:vJ l=bQ (canon l):=by
 unfold vJ bQ canon;have h1:l.flatMap d9=(l.filter fun p=>decide (p.2≠0)).map fun p=>qC p.1 p.2:=by
  induction l with
  | nil=>rfl
  | cons p r ih =>
   by_cases hp:p.2=0
   ·rw[Xe1 (by simpa using hp)];simp[Xa1,d9,hp,ih]
   ·rw[Xe2 (by simpa using hp)];simp[Xa1,d9,hp,ih]
 rw[h1,<-List.map_mergeSort (r:=fun a b => !jG b.1 a.1)];intro a _ b _;rfl
theorem XB {S:Nat}{l:List bS}(h:Bd S l){e:jQ}{y:Rat}(hy:lH l e=some y):qz y<=S:=h _ (Be hy)
def paL:aF:=f155.body.r.r.l.r.bl.lp
def Ot (es:List D)(k:Nat)(L:List ai)(t:FV):St:=(st0 [.u,.u,.u,.m (.loc 0),.u,.d (.s 6 es),dI es.length,dI k,t] L)
theorem Sl (es:List D)(k:Nat)(L:List ai)(l:List bS)(p:bS)(hn:es.length<=1000000)(hk:es[k]?=some (qC p.1 p.2))(hL:L[0]?=some (.map (l.map iM)))(hp:qz p.2<=50000)(hl:Bd 50000 l)(hf:eZ p.1=true) :
  ∃ L',Ex E1 paL (Ot es k L .u) (.norm,Ot es (k+1) L' .u)/\L'[0]?=some (.map ((qY l p.1 p.2).map iM)):=by
 obtain⟨e,x⟩:=p;have hkl:k<es.length:=(aS hk)
 have hB:(List.map (ai.aA 0) (L++[ai.box [dI e.1,dI e.2.1,dI e.2.2,dB (qs x),.d (LD (qn x)),.d (LD (qd x))]]))[0]?=some (.map (l.map iM)):=by
  cases L with
  | nil=>cases hL
  | cons o r=>simp only[Qv1,Qd2]at hL;subst hL;rfl
 obtain⟨N,B',t,hlen,hB'⟩:=R9 _ 0 l hB e x hp (fun y hy=>XB hl hy) (Si hf);refine⟨B',Ex.of (n:=N+200) ?_,hB'⟩;have aP:av .i64 ((k:Int)+1)=(k:Int)+1:=wrap_i64 ae;have hk1:((k+1:Nat):Int)=(k:Int)+1:=ae;have hk0:(0:Int)<=(k:Int):=ae;have hkc:(k:Int)<(es.length:Int):=ae;clear hB hB' hlen hp hl hf;obtain⟨a,b,c⟩:=e;unfold Ot;rw[hk1];simp only[qC,Hw,lD,qD,raw]at*;generalize qs x=s at*;simp only[LD]at*;generalize LL (qn x)=ns,LL (qd x)=ds at*;have i1:=idx hk;simp only[Qr0,Qe1,Qc2,ai.aA,FV.aT,FV.aA]at t;simp[paL,f155,aP,hk0,hkc,hk,i1,t,FV.aA,FV.aT,ai.aA]
theorem Sn {ms:List bS}{k:Nat}{p:bS}(h:ms[k]?=some p):iF [] (ms.take (k+1))=qY (iF [] (ms.take k)) p.1 p.2:=by
 rw[Xi1,h];show iF [] (ms.take k++[p])=_;rw[H8];rfl
theorem XC (ms:List bS)(L:List ai)(S:Nat)(hn:ms.length<=1000000)(hL:L[0]?=some (.map []))(hf:Fits ms)(hb:Bd S ms)(hS:S<=50000)(hm:ms.length*(S+1)<=50000) :
  ∃ L',Ex E1 (.loop paL) (Ot (ms.map fun p=>qC p.1 p.2) 0 L .u) (.exit 0,Ot (ms.map fun p=>qC p.1 p.2) ms.length L' (dB false))/\L'[0]?=some (.map ((iF [] ms).map iM)):=by
 have hlen:(ms.map fun p=>qC p.1 p.2).length=ms.length:=aC;obtain⟨r,h1,L',h2,h3⟩:=Ex.inv (E:=E1) (b:=paL) (α:=Nat × List ai) (S:=fun a=>Ot (ms.map fun p=>qC p.1 p.2) a.1 a.2 .u) (fun a=>ms.length-a.1)
  (fun a=>a.1<=ms.length/\a.2[0]?=some (.map ((iF [] (ms.take a.1)).map iM))) (fun r=>∃ L',r=(.exit 0,Ot (ms.map fun p=>qC p.1 p.2) ms.length L' (dB false))/\L'[0]?=some (.map ((iF [] ms).map iM))) (by
   rintro⟨k,L⟩ ⟨q1,q2⟩;simp only at q1 q2
   by_cases hk:k<ms.length
   ·have hp:ms[k]?=some ms[k]:=Qa1 hk;have hpm:ms[k] ∈ ms:=Qj1 hk;have hp2:(ms.map fun p=>qC p.1 p.2)[k]?=some (qC ms[k].1 ms[k].2):=by rw[Qc1,hp];rfl
    have hbd:Bd 50000 (iF [] (ms.take k)):=by
     refine(KD (S:=0) (T:=S) (fun p hp=>by cases hp) (fun p hp=>hb p (Qs2 hp))).mono ?_;rw[Ql2,Qy0];exact Qe2 (Qh2 _ (Nat.min_le_right _ _)) hm
    obtain⟨L',g1,g2⟩:=Sl _ k L _ ms[k] (by rw[hlen];exact hn) hp2 q2 (Qe2 (hb _ hpm) hS) hbd (hf _ hpm);refine .inl ⟨(k+1,L'),g1,by show ms.length-(k+1)<ms.length-k;omega,by show k+1<=_;omega,?_⟩;show L'[0]?=some (.map ((iF [] (ms.take (k+1))).map iM));rw[Sn hp];exact g2
   ·obtain rfl:k=ms.length:=ae;rw[Qj0]at q2;refine .inr ⟨_,Ex.of (n:=60) ?_,?_,L,rfl,q2⟩
    ·simp only[Ot,hlen];generalize (ms.map fun p=>qC p.1 p.2)=es,ms.length=n at*;simp[paL,f155]
    ·simp) (0,L) ⟨Qy1 _,hL⟩
 subst h2;exact⟨L',h1,h3⟩
theorem zH {S:Nat}:∀ {l:List bS} {q:Option Mo},PV S l->(∀ m,q=some m->∀ p ∈ l,jG m.e p.1=true)->uX q (l.map tK)=true
 | [],_,_,_=>by simp[uX]
 | p::l,q,h,hq=>by
  have hs:=Qn2.1 h.Qn;have hfit:(tK p).fits=true:=by
   unfold Mo.fits tK;have h1:=h.fits p (Qi0 ..);have h2:qn p.2≠[]:=by
    have h3:=h.nz p (Qi0 ..);intro h4;have h5:p.2.num.natAbs=0:=by
     have:=aV (p.2.num.natAbs);unfold qn at h4;rw[h4]at this;simpa[val] using this.symm
    exact h3 (Rat.num_eq_zero.1 (Xs2.1 h5))
   simp[h1,h2,rU]
  have hr:uX (some (tK p)) (l.map tK)=true:=zH (S:=S) ⟨hs.2,fun x hx=>h.nz x (Qf1 _ hx),fun x hx=>h.fits x (Qf1 _ hx),fun x hx=>h.bd x (Qf1 _ hx)⟩ (fun m hm x hx=>by cases hm;exact hs.1 x hx);cases q with
  | none=>simp only[Qe1,uX,hfit,hr,Bool.and_self]
  | some m =>
   have h6:iE m.e (tK p).e<0:=of_decide_eq_true (hq m rfl p (Qi0 ..));simp only[Qe1,uX,hfit,hr,decide_eq_true h6,Bool.and_self]
theorem Sq {S:Nat}{l:List bS}(h:PV S l)(hS:S<=1000):Po (l.map tK):=by
 refine⟨fun m hm => ?_,by have:=h.length;simp;omega⟩;obtain⟨p,hp,rfl⟩:=Qj2.1 hm;have hb:=h.bd p hp;have h1:(qn p.2).length<=qz p.2:=Q61 _ _;have h2:(qd p.2).length<=qz p.2:=by
  unfold qd;split
  ·simp
  ·exact Q22 _ _
 exact⟨E8 _,E9 _,Qe2 h1 (Qe2 hb hS),Qe2 h2 (Qe2 hb hS)⟩
theorem Ea {S:Nat}{l:List bS}(h:PV S l)(hS:S<=1000):Ca E1 208 [.d (bQ l)] (.d (bQ l),none):=by
 have h1:=DU _ (Sq h hS);rw[zH h (fun m hm=>by cases hm),<-Fv]at h1;obtain⟨N,t⟩:=(Ca.jg h1).get;refine Ca.bO (n:=N+60) ?_;rw[aB rfl (aN 208 f208:E1.fn _=_) rfl];unfold bQ at*;generalize (l.map fun p=>qC p.1 p.2)=es at*;simp[f208,t]
theorem KE {S:Nat}{ms:List bS}(hf:Fits ms)(hb:Bd S ms)(hm:ms.length*(S+1)<=50000):xE (iF [] ms)=true:=by
 have hk:Keys (iF [] ms):=Bf keys_nil;have hF:Fits (iF [] ms):=Bg (fun p hp=>by cases hp) hf;have hB:Bd (0+ms.length*(S+1)) (iF [] ms):=KD (fun p hp=>by cases hp) hb;have hl:=yF hk hF;unfold xE;simp only[Qa2,decide_eq_true_eq,Qf0];exact⟨⟨hk,fun p hp=>by have:=hB p hp;omega⟩,ae⟩
theorem Ou {S:Nat}{L:List ai}{ms:List bS}(hL:L[0]?=some (.map ((iF [] ms).map iM)))(hf:Fits ms)(hb:Bd S ms)(hm:ms.length*(S+1)<=50000)(m:Nat) :
  CL E1 m 206 [.m (.old 0)] (List.map (ai.aA 0) L)=some (.d (bQ (canon (iF [] ms))),none):=by
 have hB:(List.map (ai.aA 0) L)[0]?=some (.map ((iF [] ms).map iM)):=by rw[Qc1,hL];rfl
 rw[Om m 0 _ _ hB (KE hf hb hm),Sk]
theorem XD {S:Nat}{a b:List bS}(ha:PV S a)(hb:PV S b)(hS:S<=1000)(hm:(a++b).length*(S+1)<=50000):Ca E1 155 [.d (bQ a),.d (bQ b)] (.d (bQ (jR a b)),none):=by
 have hf:Fits (a++b):=fun p hp=>by
  rcases Qw2.1 hp with hp|hp
  ·exact ha.fits p hp
  ·exact hb.fits p hp
 have hB:Bd S (a++b):=fun p hp=>by
  rcases Qw2.1 hp with hp|hp
  ·exact ha.bd p hp
  ·exact hb.bd p hp
 have la:=ha.length;have lb:=hb.length;have hlen:(a++b).length<=1000000:=by rw[Qb0];omega
 obtain⟨N1,t1⟩:=(Ea ha hS).any;obtain⟨N2,t2⟩:=(Ea hb hS).any;obtain⟨o,hc,ho⟩:=Oq (a.map fun p=>qC p.1 p.2) (b.map fun p=>qC p.1 p.2) (by simp;omega) (by simp;omega);obtain⟨N3,t3⟩:=(Ca.jg hc).any;obtain⟨M,hM⟩:∃ M,M=N1+N2+N3:=⟨_,rfl⟩
 replace t1:=t1 M ae;replace t2:=t2 M ae;replace t3:=t3 M ae;have e1:(a.map fun p=>qC p.1 p.2)++(b.map fun p=>qC p.1 p.2)=(a++b).map fun p=>qC p.1 p.2:=aC
 rw[e1]at t3;have hAB:Ex E1 f155.body.l (st0 (.d (bQ a)::.d (bQ b)::nO) []) (.norm,(st0 (.d (bQ a)::.d (bQ b)::nO) [])):=by
  apply e6;generalize bQ a=x1;generalize bQ b=x2;simp[f155]
 have hMk := nx hAB f155.body.r.l (st0 (.d (bQ a)::.d (bQ b)::.u::.m (.loc 0)::iO) [.map []]) (by
  apply e6;generalize bQ a=x1;generalize bQ b=x2;simp[f155])
 have hC:∃ L,L[0]?=some (.map [])/\Ex E1 f155.body.r.r.l.l (st0 (.d (bQ a)::.d (bQ b)::.u::.m (.loc 0)::iO) [.map []]) (.norm,Ot ((a++b).map fun p=>qC p.1 p.2) 0 L .u):=by
  rcases ho with rfl|⟨x,rfl⟩
  ·refine⟨[.map []],rfl,Ex.of (n:=M+100) ?_⟩;unfold bQ Ot su at*;generalize ((a++b).map fun p=>qC p.1 p.2)=es,(a.map fun p=>qC p.1 p.2)=es1,(b.map fun p=>qC p.1 p.2)=es2 at*;simp[f155,t1,t2,t3]
  ·refine⟨[.map [],ai.shift 1 x],rfl,Ex.of (n:=M+100) ?_⟩;unfold bQ Ot su at*;generalize ((a++b).map fun p=>qC p.1 p.2)=es,(a.map fun p=>qC p.1 p.2)=es1,(b.map fun p=>qC p.1 p.2)=es2 at*;simp[f155,t1,t2,t3]
 obtain⟨L,hL,hC⟩:=hC;obtain⟨L',hl,hL'⟩:=XC (a++b) L S hlen hL hf hB ae hm;have t4:=fun m=>Ou hL' hf hB hm m
 have Ms:bQ (canon (iF [] (a++b)))=bQ (jR a b):=rfl;rw[Ms]at t4;have hD:Ex E1 f155.body.r.r.r (Ot ((a++b).map fun p=>qC p.1 p.2) (a++b).length L' (dB false)) (.ret,(st0 (.u::.u::.d (bQ (jR a b))::qm) (L'))):=by
  refine Ex.of (n:=100) ?_;unfold bQ Ot at*;generalize ((a++b).map fun p=>qC p.1 p.2)=es,((jR a b).map fun p=>qC p.1 p.2)=es1 at*;simp[f155,t4,FV.aA,FV.aT]
 refine Ca.body (o:=.ret) (st1:=(st0 (.u::.u::.d (bQ (jR a b))::qm) (L'))) rfl (aN 155 f155:E1.fn _=_) rfl ?_ (by intro id h;cases h) ?_
 ·show Ex E1 (.seq f155.body.l (.seq f155.body.r.l (.seq (.seq f155.body.r.r.l.l (.block 0 (.loop paL))) f155.body.r.r.r))) _ _;exact hAB.seq (hMk.seq ((hC.seq hl.block).seq hD))
 ·unfold bQ;generalize ((jR a b).map fun p=>qC p.1 p.2)=es1 at*;simp[f155]
def sw (p:bS):ai:=.box [dI p.1.1,dI p.1.2.1,dI p.1.2.2,dB (qs p.2),.d (LD (qn p.2)),.d (LD (qd p.2))]
theorem zI:∀ {l:List bS},Keys l->∀ {p:bS},p ∈ l->tot l p.1=p.2
 | [],_,_,hp=>by cases hp
 | (a,y)::r,h,p,hp=>by
  unfold Keys at h;simp only[Qe1,List.nodup_cons]at h;rcases Qg1.1 hp with h0|hp2
  ·subst h0;have hr:∀ x ∈ r,x.1≠a:=fun x hx he=>h.1 (he ▸ Qj2.2 ⟨x,hx,rfl⟩)
   simp only[tot,if_true,mY hr];grind
  ·have h1:¬ a=p.1:=fun he=>h.1 (he ▸ Qj2.2 ⟨p,hp2,rfl⟩)
   simp only[tot,if_neg h1,zI h.2 hp2];grind
theorem Fw {S:Nat}(hS:1<=S){l:List bS}(h:Keys l)(hb:Bd S l)(e:jQ):qz (tot l e)<=S:=by
 cases hg:lH l e with
 | none =>
  rw[mY (Oo hg)];exact Qe2 oU hS
 | some y =>
  have h1:=Be hg;have h2:=zI h h1;simp only at h2;rw[h2];exact hb _ h1
theorem Sr {S:Nat}{l:List bS}(hk:Keys l)(hf:Fits l)(hb:∀ e,qz (tot l e)<=S):PV S (canon l):=by
 refine⟨D_ hk,Sd l,fun p hp=>hf p (D9.1 hp).1,fun p hp => ?_⟩;have:=zI (l_ (D_ hk)) hp;rw[D8]at this;rw[<-this];exact hb _
theorem Fx (l:List bS):(canon l).length<=l.length:=by
 unfold canon;rw[List.length_mergeSort];exact Q80 _ _
theorem Bi {S T:Nat}(hS:1<=S)(hT:1<=T){a b:List bS}(ha:PV S a)(hb:PV T b):PV (S+T+1) (jR a b):=by
 refine Sr (Bf keys_nil) (Bg (fun p hp=>by cases hp) ?_) fun e => ?_
 ·intro p hp;rcases Qw2.1 hp with hp|hp
  ·exact ha.fits p hp
  ·exact hb.fits p hp
 ·have h1:tot (iF [] (a++b)) e=tot a e+tot b e:=by
   rw[Fu keys_nil,Bc];simp only[tot];grind
  rw[h1];have h2:=xx (tot a e) (tot b e);have h3:=Fw hS (l_ ha.Qn) ha.bd e;have h4:=Fw hT (l_ hb.Qn) hb.bd e;omega
theorem Ia (a b:List bS):(jR a b).length<=a.length+b.length:=by
 have h1:=Fx (iF [] (a++b));have h2:=Bh (ms:=a++b) (l:=[]);rw[Qb0]at h2;show(canon (iF [] (a++b))).length<=_;simp only[Qw0]at h2;omega
end Fi.S
