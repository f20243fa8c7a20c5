/- Sums and products of polynomials. -/
import Derived.Test.YtonmcbnjifeagaaGreatDoorCH
import Derived.Test.YtonmcbnjifeagaaGreatDoorSEnv
import Derived.Test.YtonmcbnjifeagaaGreatDoorFiG
import Derived.Test.YtonmcbnjifeagaaGreatDoorCF
set_option linter.unusedVariables false
set_option linter.unusedSimpArgs false
noncomputable section
namespace Fi.S
open Go Fi
abbrev Ex3:Type:=Int × Int × Int
def tot:List Ent->Ex3->Rat
 | [],_=>0
 | (a,y)::r,e=>(if a=e then y else 0)+tot r e
theorem tot_append (a b:List Ent)(e:Ex3):tot (a++b) e=tot a e+tot b e:=by
 induction a with
 | nil=>simp[tot,Rat.zero_add]
 | cons p r ih=>simp only[List.cons_append,tot,ih];grind
theorem tot_perm {a b:List Ent}(h:a.Perm b)(e:Ex3):tot a e=tot b e:=by
 induction h with
 | nil=>rfl
 | cons p _ ih=>simp only[tot,ih]
 | swap p q l=>simp only[tot];grind
 | trans _ _ h1 h2=>rw[h1,h2]
theorem tot_not {l:List Ent}{e:Ex3}(h:∀ p ∈ l,p.1≠e):tot l e=0:=by
 induction l with
 | nil=>rfl
 | cons p r ih =>
  have h1:=h p (List.mem_cons_self ..);have h2:=ih (fun q hq=>h q (List.mem_cons_of_mem _ hq));simp only[tot,if_neg h1,h2];grind
theorem tot_filter (l:List Ent)(e:Ex3):tot (l.filter fun p=>decide (p.2≠0)) e=tot l e:=by
 induction l with
 | nil=>rfl
 | cons p r ih =>
  obtain⟨a,y⟩:=p
  by_cases hy:y=0
  ·subst hy;rw[List.filter_cons_of_neg (by simp)];simp only[tot,ih]
   by_cases h:a=e<;>simp[h,Rat.zero_add]
  ·rw[List.filter_cons_of_pos (by simpa using hy)];simp only[tot,ih]
theorem getE_none {l:List Ent}{e:Ex3}(h:getE l e=none):∀ p ∈ l,p.1≠e:=by
 induction l with
 | nil=>intro p hp;cases hp
 | cons q r ih =>
  intro p hp;unfold getE at h;split at h
  ·cases h
  ·rename_i hne;rcases List.mem_cons.1 hp with rfl|hp
   ·exact fun he=>hne he.symm
   ·exact ih h p hp
theorem getE_mem {l:List Ent}{e:Ex3}{y:Rat}(h:getE l e=some y):(e,y) ∈ l:=by
 induction l with
 | nil=>cases h
 | cons q r ih =>
  unfold getE at h;split at h
  ·rename_i he;cases h;subst he;exact List.mem_cons_self ..
  ·exact List.mem_cons_of_mem _ (ih h)
theorem setE_mem {l:List Ent}{e:Ex3}{y:Rat}{p:Ent}(h:p ∈ setE l e y):p=(e,y)\/p ∈ l:=by
 induction l with
 | nil=>simp only[setE,List.mem_singleton]at h;exact .inl h
 | cons q r ih =>
  unfold setE at h;split at h
  ·rcases List.mem_cons.1 h with rfl|h
   ·exact .inl rfl
   ·exact .inr (List.mem_cons_of_mem _ h)
  ·rcases List.mem_cons.1 h with rfl|h
   ·exact .inr (List.mem_cons_self ..)
   ·rcases ih h with h|h
    ·exact .inl h
    ·exact .inr (List.mem_cons_of_mem _ h)
theorem setE_keys (l:List Ent)(e:Ex3)(y:Rat):(setE l e y).map (·.1)=l.map (·.1)\/((∀ p ∈ l,p.1≠e)/\(setE l e y).map (·.1)=l.map (·.1)++[e]):=by
 induction l with
 | nil=>exact .inr ⟨by simp,rfl⟩
 | cons q r ih =>
  obtain⟨a,x⟩:=q;unfold setE
  by_cases h:e=a
  ·subst h;left;simp
  ·rw[if_neg h];rcases ih with ih|⟨h1,ih⟩
   ·left;simp only[List.map_cons,ih]
   ·right
    refine⟨fun p hp => ?_,by simp only[List.map_cons,ih,List.cons_append]⟩;rcases List.mem_cons.1 hp with rfl|hp
    ·exact fun he=>h he.symm
    ·exact h1 p hp
def Keys (l:List Ent):Prop:=(l.map (·.1)).Nodup
theorem keys_set {l:List Ent}(h:Keys l)(e:Ex3)(y:Rat):Keys (setE l e y):=by
 unfold Keys at*;rcases setE_keys l e y with h1|⟨h1,h2⟩
 ·rw[h1];exact h
 ·rw[h2,List.nodup_append];refine⟨h,by simp,?_⟩;intro a ha b hb;simp only[List.mem_singleton]at hb;subst hb;obtain⟨p,hp,rfl⟩:=List.mem_map.1 ha;exact h1 p hp
theorem tot_set {l:List Ent}(h:Keys l)(e:Ex3)(y:Rat)(e':Ex3):tot (setE l e y) e'=if e=e' then y else tot l e':=by
 induction l with
 | nil=>simp only[setE,tot];split<;>grind
 | cons q r ih =>
  obtain⟨a,x⟩:=q;unfold Keys at h ih;simp only[List.map_cons,List.nodup_cons]at h;have hr:∀ p ∈ r,p.1≠a:=fun p hp he=>h.1 (he ▸ List.mem_map.2 ⟨p,hp,rfl⟩)
  unfold setE
  by_cases he:e=a
  ·subst he;rw[if_pos rfl];simp only[tot]
   by_cases h2:e=e'
   ·subst h2;simp only[if_pos,tot_not hr];grind
   ·simp only[if_neg h2]
  ·rw[if_neg he];simp only[tot,ih h.2]
   by_cases h2:e=e'
   ·subst h2;have:¬ a=e:=fun h3=>he h3.symm
    simp only[if_neg this,if_true];grind
   ·simp only[if_neg h2]
theorem getE_tot {l:List Ent}(h:Keys l)(e:Ex3):(getE l e).getD 0=tot l e:=by
 induction l with
 | nil=>rfl
 | cons q r ih =>
  obtain⟨a,x⟩:=q;unfold Keys at h ih;simp only[List.map_cons,List.nodup_cons]at h;have hr:∀ p ∈ r,p.1≠a:=fun p hp he=>h.1 (he ▸ List.mem_map.2 ⟨p,hp,rfl⟩)
  unfold getE
  by_cases he:e=a
  ·subst he;simp only[if_true,Option.getD_some,tot,tot_not hr];grind
  ·have h2:¬ a=e:=fun h3=>he h3.symm
   rw[if_neg he];simp only[tot,if_neg h2,ih h.2];grind
theorem keys_put {l:List Ent}(h:Keys l)(e:Ex3)(c:Rat):Keys (putE l e c):=keys_set h e _
theorem tot_put {l:List Ent}(h:Keys l)(e:Ex3)(c:Rat)(e':Ex3):tot (putE l e c) e'=tot l e'+if e=e' then c else 0:=by
 unfold putE;rw[tot_set h,getE_tot h]
 by_cases h2:e=e'
 ·subst h2;simp
 ·simp only[if_neg h2];grind
theorem ltE_irrefl (e:Ex3):ltE e e=false:=by
 cases h:ltE e e with
 | false=>rfl
 | true=>rw[ltE_iff]at h;omega
theorem ltE_trans {a b c:Ex3}(h1:ltE a b=true)(h2:ltE b c=true):ltE a c=true:=by
 rw[ltE_iff]at*;omega
def Srt (l:List Ent):Prop:=l.Pairwise fun a b=>ltE a.1 b.1=true
def Nz (l:List Ent):Prop:=∀ p ∈ l,p.2≠0
theorem srt_keys {l:List Ent}(h:Srt l):Keys l:=by
 unfold Keys;rw[List.nodup_iff_pairwise_ne,List.pairwise_map];refine h.imp ?_;intro a b hab he;rw[he,ltE_irrefl]at hab;cases hab
theorem srt_ext:∀ {l m:List Ent},Srt l->Srt m->Nz l->Nz m->(∀ e,tot l e=tot m e)->l=m
 | [],[],_,_,_,_,_=>rfl
 | [],(b,y)::m,_,hm,_,hn,h=>by
  have h1:=h b;have h2:tot m b=0:=tot_not fun p hp he=>by
   have:=(List.pairwise_cons.1 hm).1 p hp;rw[he,ltE_irrefl]at this;cases this
  have h3:=hn (b,y) (List.mem_cons_self ..);simp only[tot,if_true,h2]at h1;grind
 | (a,x)::l,[],hl,_,hn,_,h=>by
  have h1:=h a;have h2:tot l a=0:=tot_not fun p hp he=>by
   have:=(List.pairwise_cons.1 hl).1 p hp;rw[he,ltE_irrefl]at this;cases this
  have h3:=hn (a,x) (List.mem_cons_self ..);simp only[tot,if_true,h2]at h1;grind
 | (a,x)::l,(b,y)::m,hl,hm,hn,hk,h=>by
  have hl':=List.pairwise_cons.1 hl;have hm':=List.pairwise_cons.1 hm;have zl:∀ e,(e=a\/ltE e a=true)->tot l e=0:=fun e he=>tot_not fun p hp hpe=>by
   have h1:=hl'.1 p hp;simp only at h1;rw[hpe]at h1;rcases he with rfl|he
   ·rw[ltE_irrefl]at h1;cases h1
   ·have:=ltE_trans h1 he;rw[ltE_irrefl]at this;cases this
  have zm:∀ e,(e=b\/ltE e b=true)->tot m e=0:=fun e he=>tot_not fun p hp hpe=>by
   have h1:=hm'.1 p hp;simp only at h1;rw[hpe]at h1;rcases he with rfl|he
   ·rw[ltE_irrefl]at h1;cases h1
   ·have:=ltE_trans h1 he;rw[ltE_irrefl]at this;cases this
  have hx:=hn (a,x) (List.mem_cons_self ..);have hy:=hk (b,y) (List.mem_cons_self ..);have hab:a=b:=by
   cases h1:ltE a b with
   | true =>
    have e1:=h a;have hne:¬ b=a:=fun h2=>by rw[h2,ltE_irrefl]at h1;cases h1
    simp only[tot,if_true,if_neg hne,zl a (.inl rfl),zm a (.inr h1)]at e1;grind
   | false =>
    cases h2:ltE b a with
    | true =>
     have e1:=h b;have hne:¬ a=b:=fun h3=>by rw[h3,ltE_irrefl]at h2;cases h2
     simp only[tot,if_true,if_neg hne,zm b (.inl rfl),zl b (.inr h2)]at e1;grind
    | false=>exact ltE_total h1 h2
  subst hab;have hxy:x=y:=by
   have e1:=h a;simp only[tot,if_true,zl a (.inl rfl),zm a (.inl rfl)]at e1;grind
  subst hxy;have:l=m:=srt_ext hl'.2 hm'.2 (fun p hp=>hn p (List.mem_cons_of_mem _ hp)) (fun p hp=>hk p (List.mem_cons_of_mem _ hp)) (fun e=>by
   have e1:=h e;simp only[tot]at e1;grind)
  rw[this]
def canon (l:List Ent):List Ent:=(l.filter fun p=>decide (p.2≠0)).mergeSort fun a b => !ltE b.1 a.1
theorem canon_tot (l:List Ent)(e:Ex3):tot (canon l) e=tot l e:=by
 unfold canon;rw[tot_perm (List.mergeSort_perm _ _),tot_filter]
theorem canon_mem {l:List Ent}{p:Ent}:p ∈ canon l↔p ∈ l/\p.2≠0:=by
 unfold canon;rw[(List.mergeSort_perm _ _).mem_iff];simp
theorem canon_nz (l:List Ent):Nz (canon l):=fun p hp=>(canon_mem.1 hp).2
theorem canon_srt {l:List Ent}(h:Keys l):Srt (canon l):=by
 have h1:((canon l).map (·.1)).Nodup:=by
  have hp:(canon l).Perm (l.filter fun p=>decide (p.2≠0)):=List.mergeSort_perm _ _;refine((hp.map (·.1)).nodup_iff).2 ?_;exact List.Nodup.sublist (List.filter_sublist.map _) h
 have h2:(canon l).Pairwise fun a b=>(!ltE b.1 a.1)=true:=by
  refine List.pairwise_mergeSort (fun a b c hab hbc => ?_) (fun a b => ?_) _
  ·simp only[Bool.not_eq_true',Bool.not_eq_eq_eq_not,Bool.not_true]at*;cases h3:ltE c.1 a.1 with
   | false=>rfl
   | true =>
    cases h4:ltE b.1 c.1 with
    | true=>have:=ltE_trans h4 h3;rw[this]at hab;cases hab
    | false =>
     have:=ltE_total h4 hbc;rw[this]at hab;rw[hab]at h3;cases h3
  ·cases h3:ltE b.1 a.1 with
   | false=>rfl
   | true =>
    cases h4:ltE a.1 b.1 with
    | false=>rfl
    | true=>have:=ltE_trans h3 h4;rw[ltE_irrefl]at this;cases this
 rw[List.nodup_iff_pairwise_ne,List.pairwise_map]at h1;refine(h1.and h2).imp ?_;rintro a b ⟨hne,hle⟩;simp only[Bool.not_eq_true',Bool.not_eq_eq_eq_not,Bool.not_true]at hle;cases h3:ltE a.1 b.1 with
 | true=>rfl
 | false=>exact absurd (ltE_total h3 hle) hne
def accP (l ms:List Ent):List Ent:=ms.foldl (fun s p=>putE s p.1 p.2) l
theorem accP_cons (l:List Ent)(p:Ent)(ms:List Ent):accP l (p::ms)=accP (putE l p.1 p.2) ms:=rfl
theorem accP_append (l a b:List Ent):accP l (a++b)=accP (accP l a) b:=by simp[accP,List.foldl_append]
theorem acc_keys:∀ {ms l:List Ent},Keys l->Keys (accP l ms)
 | [],_,h=>h
 | p::ms,l,h=>acc_keys (ms:=ms) (keys_put h p.1 p.2)
theorem acc_tot:∀ {ms l:List Ent},Keys l->∀ e,tot (accP l ms) e=tot l e+tot ms e
 | [],l,h,e=>by simp only[accP,List.foldl_nil,tot];grind
 | p::ms,l,h,e=>by
  rw[accP_cons,acc_tot (keys_put h p.1 p.2),tot_put h];simp only[tot];grind
theorem put_mem {l:List Ent}{e:Ex3}{c:Rat}{p:Ent}(h:p ∈ putE l e c):p=(e,(getE l e).getD 0+c)\/p ∈ l:=setE_mem h
def Fits (l:List Ent):Prop:=∀ p ∈ l,fitsE p.1=true
def Bd (S:Nat)(l:List Ent):Prop:=∀ p ∈ l,qz p.2<=S
theorem Bd.mono {S T:Nat}{l:List Ent}(h:Bd S l)(hST:S<=T):Bd T l:=fun p hp=>Nat.le_trans (h p hp) hST
theorem put_fits {l:List Ent}(h:Fits l){e:Ex3}(he:fitsE e=true)(c:Rat):Fits (putE l e c):=by
 intro p hp;rcases put_mem hp with rfl|hp
 ·exact he
 ·exact h p hp
theorem put_bd {S:Nat}{l:List Ent}(h:Bd S l)(e:Ex3){c:Rat}{T:Nat}(hc:qz c<=T):Bd (S+T+1) (putE l e c):=by
 intro p hp;rcases put_mem hp with rfl|hp
 ·show qz ((getE l e).getD 0+c)<=_;cases hg:getE l e with
  | none =>
   have:(0:Rat)+c=c:=Rat.zero_add c;simp only[Option.getD_none,this];omega
  | some y =>
   have h1:=h _ (getE_mem hg);have h2:=qz_add y c;simp only[Option.getD_some]at*;omega
 ·have:=h p hp;omega
theorem put_length (l:List Ent)(e:Ex3)(c:Rat):(putE l e c).length<=l.length+1:=by
 have:((putE l e c).map (·.1)).length<=(l.map (·.1)).length+1:=by
  unfold putE;rcases setE_keys l e ((getE l e).getD 0+c) with h|⟨_,h⟩
  ·rw[h];omega
  ·rw[h];simp
 simpa using this
theorem acc_fits:∀ {ms l:List Ent},Fits l->Fits ms->Fits (accP l ms)
 | [],_,h,_=>h
 | p::ms,l,h,hm=>acc_fits (ms:=ms) (put_fits h (hm p (List.mem_cons_self ..)) p.2) (fun q hq=>hm q (List.mem_cons_of_mem _ hq))
theorem acc_bd {T:Nat}:∀ {ms l:List Ent} {S:Nat},Bd S l->Bd T ms->Bd (S+ms.length*(T+1)) (accP l ms)
 | [],_,_,h,_=>h.mono (by simp)
 | p::ms,l,S,h,hm=>by
  have:=acc_bd (ms:=ms) (put_bd h p.1 (hm p (List.mem_cons_self ..))) (fun q hq=>hm q (List.mem_cons_of_mem _ hq));rw[accP_cons];refine this.mono ?_;rw[List.length_cons,Nat.add_mul];omega
theorem acc_length:∀ {ms l:List Ent},(accP l ms).length<=l.length+ms.length
 | [],_=>by simp[accP]
 | p::ms,l=>by
  have h1:=acc_length (ms:=ms) (l:=putE l p.1 p.2);have h2:=put_length l p.1 p.2;rw[accP_cons,List.length_cons];omega
structure PV (S:Nat)(l:List Ent):Prop where
 srt:Srt l
 nz:Nz l
 fits:Fits l
 bd:Bd S l
theorem PV.mono {S T:Nat}{l:List Ent}(h:PV S l)(hST:S<=T):PV T l:=⟨h.srt,h.nz,h.fits,h.bd.mono hST⟩
theorem PV.nil (S:Nat):PV S []:=⟨List.Pairwise.nil,fun _ hp=>(by cases hp),fun _ hp=>(by cases hp),fun _ hp=>(by cases hp)⟩
theorem PV.ext {S T:Nat}{l m:List Ent}(h:PV S l)(k:PV T m)(e:∀ e,tot l e=tot m e):l=m:=srt_ext h.srt k.srt h.nz k.nz e
theorem nodup_lt:∀ (n:Nat) (l:List Nat),l.Nodup->(∀ x ∈ l,x<n)->l.length<=n
 | 0,l,_,h=>by
  cases l with
  | nil=>simp
  | cons x r=>exact absurd (h x (List.mem_cons_self ..)) (by omega)
 | n+1,l,hn,h=>by
  have h1:=nodup_lt n (l.erase n) (hn.erase n) (fun x hx=>by
   have h2:=h x (List.mem_of_mem_erase hx);have h3:x≠n:=fun e=>by subst e;exact(List.Nodup.mem_erase_iff hn).1 hx |>.1 rfl
   omega)
  have h2:=List.length_erase_of_mem (a:=n) (l:=l)
  by_cases hm:n ∈ l
  ·have:=h2 hm;omega
  ·rw[List.erase_of_not_mem hm]at h1;omega
theorem fits_range {e:Ex3}(h:fitsE e=true):0<=e.1/\e.1<=5/\0<=e.2.1/\e.2.1<=5/\0<=e.2.2/\e.2.2<=5/\e.1+e.2.1+e.2.2<=5:=by
 unfold fitsE expOk at h;simp at h;omega
theorem fits_iff {e:Ex3}:fitsE e=true↔0<=e.1/\0<=e.2.1/\0<=e.2.2/\e.1+e.2.1+e.2.2<=5:=by
 unfold fitsE expOk;simp;omega
theorem fits_deg {e:Ex3}(h:fitsE e=true):degW e<=5:=by
 have h':=fits_range h;unfold fitsE at h;simp only[Bool.and_eq_true]at h;rw[degW_small h.1.1.1 h.1.1.2 h.1.2];omega
theorem keys_length {l:List Ent}(hk:Keys l)(hf:Fits l):l.length<=216:=by
 have h1:(l.map fun p=>(36*p.1.1+6*p.1.2.1+p.1.2.2).toNat).Nodup:=by
  unfold Keys at hk;rw[List.nodup_iff_pairwise_ne,List.pairwise_map]at hk ⊢;refine(List.Pairwise.and_mem.1 hk).imp ?_;rintro a b ⟨ha,hb,hne⟩ he;apply hne;have h2:=fits_range (hf a ha);have h3:=fits_range (hf b hb);have:a.1.1=b.1.1/\a.1.2.1=b.1.2.1/\a.1.2.2=b.1.2.2:=by omega
  obtain⟨⟨x,y,z⟩,q⟩:=a;obtain⟨⟨x',y',z'⟩,q'⟩:=b;simp only at this;obtain⟨rfl,rfl,rfl⟩:=this;rfl
 have h2:=nodup_lt 216 _ h1 (fun x hx=>by
  obtain⟨p,hp,rfl⟩:=List.mem_map.1 hx;have:=fits_range (hf p hp);omega)
 simpa using h2
theorem PV.length {S:Nat}{l:List Ent}(h:PV S l):l.length<=216:=keys_length (srt_keys h.srt) h.fits
theorem canon_pv {S:Nat}{l:List Ent}(hk:Keys l)(hf:Fits l)(hb:Bd S l):PV S (canon l) :=
 ⟨canon_srt hk,canon_nz l,fun p hp=>hf p (canon_mem.1 hp).1,fun p hp=>hb p (canon_mem.1 hp).1⟩
def addP (a b:List Ent):List Ent:=canon (accP [] (a++b))
theorem keys_nil:Keys []:=List.nodup_nil
theorem addP_tot (a b:List Ent)(e:Ex3):tot (addP a b) e=tot a e+tot b e:=by
 unfold addP;rw[canon_tot,acc_tot keys_nil,tot_append];simp only[tot];grind
end Fi.S
namespace Fi.S
open Go Fi
set_option maxHeartbeats 8000000
attribute [local simp] oo og ci ml mv ld lf fa lo st0 cl ia lr fl ln sv fb mF mi mn bx bc bl pF pT sl EX_skip EX_ret EX_exit EX_kill EX_seq EX_cond EX_block EX_region ROps_nil ROps_cons RK_mov RK_pick RK_bin RK_conv RK_beq RK_aeq RK_nileq RK_un RK_box RK_new RK_load RK_store RK_faddr RK_field RK_iaddr RK_aaddr RK_index RK_build RK_lit RK_len RK_maxi RK_mini RK_app RK_slice RK_mk RK_ext RK_clo RK_call RK_callv RK_callr RK_callw RK_loadl RK_mkmap RK_mget RK_mput RK_cap RK_appz callFull RK_slen RK_sindex RK_sslice guardV runK argV argsV doCall callPure D.cells FV.cells FV.one D.one oneV St.push St.heap St.setHeap splice partF partD s_add s_sub s_mul s_quo s_rem s_or s_and s_xor s_shl s_shr s_eql s_neq s_lss s_leq s_gtr s_geq unV setVars killVars apartOk finish ressV resV leavesL leaves leaveL leave1 allD mkA fillF finish2 isPure oneOf freezeAll FV.rows FV.rows1 D.norm D.norm1 scalar D.isV FV.shift FV.shiftL AObj.shift pureElem fillE elems FStmt.l FStmt.r FStmt.bl FStmt.lp
def cc1:FStmt:=f207.body.r.r.l.r.bl.lp
def cc2:FStmt:=f207.body.r.r.r.r.l.r.bl.lp
def moZ:D:=.a [.v (.int .i64 0),.v (.int .i64 0),.v (.int .i64 0),.v (.bool false),.s 1 [],.s 1 []]
def ccX (a b:List D):FV:=.d (.s 1 [.s 6 a,.s 6 b])
def ccS1 (a b:List D)(k acc:Nat)(t:FV):St:=(st0 [ccX a b,.u,.d (.v (.int .i64 acc)),.u,.u,.u,ccX a b,.d (.v (.int .i64 2)),.d (.v (.int .i64 k)),t,.u,.u,.u,.u,.u] [])
def ccS2 (a b:List D)(k:Nat)(acc:FV)(L:List AObj)(t:FV)(dy:Bool:=false):St:={vars:=[.u,.u,.u,.u,acc,.u,.u,.u,.u,.u,.u,ccX a b,.d (.v (.int .i64 2)),.d (.v (.int .i64 k)),t],base:=[],loc:=L,dirty:=dy}
theorem w1':wrapS .i64 1=1:=wrap_i64 (by omega)
theorem w2':wrapS .i64 2=2:=wrap_i64 (by omega)
theorem cc1_0 (a b:List D)(h:a.length<=1000000):Ex E0 cc1 (ccS1 a b 0 0 .u) (.norm,ccS1 a b 1 a.length .u):=by
 have w:wrapS .i64 (a.length:Int)=a.length:=wrap_i64 (by omega);have h0:¬ ((a.length:Int)<0):=by omega
 refine Ex.of (n:=60) ?_;unfold ccS1 ccX;simp -implicitDefEqProofs [cc1,f207,w,h0,w1']
theorem cc1_1 (a b:List D)(h:a.length<=1000000)(h':b.length<=1000000):Ex E0 cc1 (ccS1 a b 1 a.length .u) (.norm,ccS1 a b 2 (a.length+b.length) .u):=by
 have w:wrapS .i64 ((a.length:Int)+(b.length:Int))=(a.length:Int)+(b.length:Int):=wrap_i64 (by omega);have h0:¬ ((a.length:Int)+(b.length:Int)<0):=by omega
 refine Ex.of (n:=60) ?_;unfold ccS1 ccX;simp only[Int.natCast_add];simp -implicitDefEqProofs [cc1,f207,w,h0,w2']
theorem cc1_2 (a b:List D)(n:Nat):Ex E0 cc1 (ccS1 a b 2 n .u) (.exit 0,ccS1 a b 2 n (.d (.v (.bool false)))):=by
 refine Ex.of (n:=60) ?_;unfold ccS1 ccX;simp -implicitDefEqProofs [cc1,f207]
theorem cc1_all (a b:List D)(h:a.length<=1000000)(h':b.length<=1000000):Ex E0 (.loop cc1) (ccS1 a b 0 0 .u) (.exit 0,ccS1 a b 2 (a.length+b.length) (.d (.v (.bool false)))) :=
 (cc1_0 a b h).next ((cc1_1 a b h h').next ((cc1_2 a b _).leave (by simp)))
theorem cc2_2 (a b:List D)(acc:FV)(L:List AObj)(dy:Bool):Ex E0 cc2 (ccS2 a b 2 acc L .u dy) (.exit 2,ccS2 a b 2 acc L (.d (.v (.bool false))) dy):=by
 refine Ex.of (n:=60) ?_;unfold ccS2 ccX;simp -implicitDefEqProofs [cc2,f207]
theorem cc2_nil (a b:List D)(k:Nat)(hk:k<2)(ha:a=[])(hb:b=[]):Ex E0 cc2 (ccS2 a b k (.d (.n 6)) [] .u) (.norm,ccS2 a b (k+1) (.d (.n 6)) [] .u):=by
 subst ha hb;refine Ex.of (n:=60) ?_;unfold ccS2 ccX
 match k,hk with
 | 0,_=>simp -implicitDefEqProofs [cc2,f207,w1',most]
 | 1,_=>simp -implicitDefEqProofs [cc2,f207,w2',most]
theorem cc2_0 (a b R:List D)(h:a.length<=1000000):Ex E0 cc2 (ccS2 a b 0 (.ls (.old 0) 0 6 0 0) [.row 0 6 R] .u) (.norm,ccS2 a b 1 (.ls (.old 0) 1 6 0 a.length) [.row 1 6 a] .u true):=by
 have h1:a.length*80<=most:=by unfold most;omega
 have h2:a.length<=most:=by unfold most;omega
 refine Ex.of (n:=60) ?_;unfold ccS2 ccX;simp -implicitDefEqProofs [cc2,f207,w1',h1,h2]
theorem cc2_1 (a b:List D)(h:a.length<=1000000)(h':b.length<=1000000):Ex E0 cc2 (ccS2 a b 1 (.ls (.old 0) 1 6 0 a.length) [.row 1 6 a] .u true) (.norm,ccS2 a b 2 (.ls (.old 0) 2 6 0 (a.length+b.length)) [.row 2 6 (a++b)] .u true):=by
 have h1:(a.length+b.length)*80<=most:=by unfold most;omega
 have h2:a.length+b.length<=most:=by unfold most;omega
 refine Ex.of (n:=60) ?_;unfold ccS2 ccX;simp -implicitDefEqProofs [cc2,f207,w2',h1,h2]
theorem run_grow (n m:Nat)(h0:0<n)(h:n<=2000000):CL E0 (m+100) 258 [.d (.n 6),.d (.v (.int .i64 n))] []=some (.ls (.old 0) 0 6 0 0,some [.row 0 6 (List.replicate n moZ)]):=by
 have w0:wrapS .i64 0=0:=wrap_i64 (by omega);have wn:wrapS .i64 (n:Int)=n:=wrap_i64 (by omega);have g0:¬ ((n:Int)<0):=by omega
 have g1:(0:Int)<n:=by omega
 have h1:(n:Int)*80<=most:=by unfold most;omega
 have h2:(n:Int)<=most:=by unfold most;omega
 rw[CL_fn rfl (k258:E0.fn _=_) rfl];simp -implicitDefEqProofs [f258,FV.toOld,AObj.toOld,oneI,asI,w0,wn,g0,g1,h1,h2,moZ,h0]
theorem ca_concat (a b:List D)(ha:a.length<=1000000)(hb:b.length<=1000000):∃ o,Ca E0 207 [ccX a b] (.d (.s 6 (a++b)),o)/\(o=none\/∃ x,o=some [x]):=by
 have w0:wrapS .i64 0=0:=wrap_i64 (by omega);have hA:Ex E0 f207.body.l (st0 [ccX a b,.u,.u,.u,.u,.u,.u,.u,.u,.u,.u,.u,.u,.u,.u] []) (.norm,(st0 [ccX a b,.u,.u,.u,.u,.u,.u,.u,.u,.u,.u,.u,.u,.u,.u] [])):=by
  refine Ex.of (n:=60) ?_;unfold ccX;simp -implicitDefEqProofs [f207]
 have hB:Ex E0 f207.body.r.l (st0 [ccX a b,.u,.u,.u,.u,.u,.u,.u,.u,.u,.u,.u,.u,.u,.u] []) (.norm,(st0 [ccX a b,.u,.d (.v (.int .i64 0)),.u,.u,.u,.u,.u,.u,.u,.u,.u,.u,.u,.u] [])):=by
  refine Ex.of (n:=60) ?_;unfold ccX;simp -implicitDefEqProofs [f207]
 have hC:Ex E0 f207.body.r.r.l.l (st0 [ccX a b,.u,.d (.v (.int .i64 0)),.u,.u,.u,.u,.u,.u,.u,.u,.u,.u,.u,.u] []) (.norm,ccS1 a b 0 0 .u):=by
  refine Ex.of (n:=60) ?_;unfold ccX ccS1 ccX;simp -implicitDefEqProofs [f207]
 have hL:=cc1_all a b ha hb;have hN:∃ acc L,Ex E0 (.loop cc2) (ccS2 a b 0 acc L .u) (.exit 2,ccS2 a b 2 acc L .u)\/True:=⟨.u,[],.inr trivial⟩
 clear hN
 by_cases hn:a.length+b.length=0
 ·obtain rfl:a=[]:=List.eq_nil_of_length_eq_zero (by omega);obtain rfl:b=[]:=List.eq_nil_of_length_eq_zero (by omega);have hD:Ex E0 f207.body.r.r.r.l (ccS1 [] [] 2 (0+0) (.d (.v (.bool false)))) (.norm,(st0 [ccX [] [],.u,.u,.u,.d (.n 6),.u,.u,.u,.u,.u,.u,.u,.u,.u,.u] [])):=by
   have t:∀ m,CL E0 (m+100) 258 [.d (.n 6),.d (.v (.int .i64 0))] []=some (.d (.n 6),none):=by
    intro m;rw[CL_fn rfl (k258:E0.fn _=_) rfl];simp -implicitDefEqProofs [f258,w0]
   refine Ex.of (n:=200) ?_;unfold ccS1 ccX;simp -implicitDefEqProofs [f207,t,FV.toOldL,FV.toOld,AObj.toOld]
  have hE:Ex E0 f207.body.r.r.r.r.l.l (st0 [ccX [] [],.u,.u,.u,.d (.n 6),.u,.u,.u,.u,.u,.u,.u,.u,.u,.u] []) (.norm,ccS2 [] [] 0 (.d (.n 6)) [] .u):=by
   refine Ex.of (n:=60) ?_;unfold ccX ccS2 ccX;simp -implicitDefEqProofs [f207]
  have hF:Ex E0 f207.body.r.r.r.r.r (ccS2 [] [] 2 (.d (.n 6)) [] (.d (.v (.bool false)))) (.ret,(st0 [.u,.d (.n 6),.u,.u,.u,.u,.u,.u,.u,.u,.u,.u,.u,.u,.u] [])):=by
   refine Ex.of (n:=60) ?_;unfold ccS2 ccX;simp -implicitDefEqProofs [f207]
  have hM:Ex E0 (.loop cc2) (ccS2 [] [] 0 (.d (.n 6)) [] .u) (.exit 2,ccS2 [] [] 2 (.d (.n 6)) [] (.d (.v (.bool false)))) :=
   (cc2_nil [] [] 0 (by omega) rfl rfl).next ((cc2_nil [] [] 1 (by omega) rfl rfl).next ((cc2_2 [] [] _ _ _).leave (by simp)))
  refine⟨none,Ca.body (o:=.ret) rfl (k207:E0.fn _=_) rfl ?_ (by intro id h;cases h) (st1:=(st0 [.u,.d (.n 6),.u,.u,.u,.u,.u,.u,.u,.u,.u,.u,.u,.u,.u] [])) ?_,.inl rfl⟩
  ·show Ex E0 (.seq f207.body.l (.seq f207.body.r.l (.seq (.seq f207.body.r.r.l.l (.block 0 (.loop cc1))) (.seq f207.body.r.r.r.l (.seq (.seq f207.body.r.r.r.r.l.l (.block 2 (.loop cc2))) f207.body.r.r.r.r.r))))) _ _;exact hA.seq (hB.seq ((hC.seq hL.block).seq (hD.seq ((hE.seq hM.block).seq hF))))
  ·simp -implicitDefEqProofs [f207]
 ·have hD:Ex E0 f207.body.r.r.r.l (ccS1 a b 2 (a.length+b.length) (.d (.v (.bool false)))) (.norm,(st0 [ccX a b,.u,.u,.u,.ls (.old 0) 0 6 0 0,.u,.u,.u,.u,.u,.u,.u,.u,.u,.u] [.row 0 6 (List.replicate (a.length+b.length) moZ)])):=by
   have t:=fun m=>run_grow (a.length+b.length) m (by omega) (by omega)
   refine Ex.of (n:=200) ?_;unfold ccS1 ccX;generalize a.length+b.length=n at*;generalize List.replicate n moZ=R at*;simp -implicitDefEqProofs [f207,t,FV.toOldL,FV.toOld,AObj.toOld]
  have hE:Ex E0 f207.body.r.r.r.r.l.l (st0 [ccX a b,.u,.u,.u,.ls (.old 0) 0 6 0 0,.u,.u,.u,.u,.u,.u,.u,.u,.u,.u] [.row 0 6 (List.replicate (a.length+b.length) moZ)]) (.norm,ccS2 a b 0 (.ls (.old 0) 0 6 0 0) [.row 0 6 (List.replicate (a.length+b.length) moZ)] .u):=by
   refine Ex.of (n:=60) ?_;unfold ccX ccS2 ccX;generalize List.replicate (a.length+b.length) moZ=R at*;simp -implicitDefEqProofs [f207]
  have hF:Ex E0 f207.body.r.r.r.r.r (ccS2 a b 2 (.ls (.old 0) 2 6 0 (a.length+b.length)) [.row 2 6 (a++b)] (.d (.v (.bool false))) true) (.ret,{vars:=[.u,.ls (.old 0) 2 6 0 (a.length+b.length),.u,.u,.u,.u,.u,.u,.u,.u,.u,.u,.u,.u,.u],base:=[],loc:=[.row 2 6 (a++b)],dirty:=true}):=by
   refine Ex.of (n:=60) ?_;unfold ccS2 ccX;simp -implicitDefEqProofs [f207]
  have hM:Ex E0 (.loop cc2) (ccS2 a b 0 (.ls (.old 0) 0 6 0 0) [.row 0 6 (List.replicate (a.length+b.length) moZ)] .u) (.exit 2,ccS2 a b 2 (.ls (.old 0) 2 6 0 (a.length+b.length)) [.row 2 6 (a++b)] (.d (.v (.bool false))) true) :=
   (cc2_0 a b _ ha).next ((cc2_1 a b ha hb).next ((cc2_2 a b _ _ _).leave (by simp)))
  refine⟨some [.frz 2 6 (a++b)],Ca.body (o:=.ret) rfl (k207:E0.fn _=_) rfl ?_ (by intro id h;cases h) (st1:={vars:=[.u,.ls (.old 0) 2 6 0 (a.length+b.length),.u,.u,.u,.u,.u,.u,.u,.u,.u,.u,.u,.u,.u],base:=[],loc:=[.row 2 6 (a++b)],dirty:=true}) ?_,.inr ⟨_,rfl⟩⟩
  ·show Ex E0 (.seq f207.body.l (.seq f207.body.r.l (.seq (.seq f207.body.r.r.l.l (.block 0 (.loop cc1))) (.seq f207.body.r.r.r.l (.seq (.seq f207.body.r.r.r.r.l.l (.block 2 (.loop cc2))) f207.body.r.r.r.r.r))))) _ _;exact hA.seq (hB.seq ((hC.seq hL.block).seq (hD.seq ((hE.seq hM.block).seq hF))))
  ·have e1:AObj.view 2 6 0 (a.length+b.length) (.row 2 6 (a++b))=some (a++b):=by
    have:List.take (a.length+b.length) (a++b)=a++b:=by rw[<-List.length_append,List.take_length]
    simp[AObj.view,this]
   clear hA hB hC hL hD hE hF hM hn;simp -implicitDefEqProofs [f207,e1,FV.toOld,AObj.toOld]
def polD (l:List Ent):D:=.s 6 (l.map fun p=>qC p.1 p.2)
def entMo (p:Ent):Mo:=⟨p.1,qs p.2,qn p.2,qd p.2⟩
theorem polD_eq (l:List Ent):polD l=PD (l.map entMo):=by
 unfold polD PD;rw[List.map_map];rfl
theorem listD_eq {l:List Ent}:listD l=polD (canon l):=by
 unfold listD polD canon;have h1:l.flatMap entOut=(l.filter fun p=>decide (p.2≠0)).map fun p=>qC p.1 p.2:=by
  induction l with
  | nil=>rfl
  | cons p r ih =>
   by_cases hp:p.2=0
   ·rw[List.filter_cons_of_neg (by simpa using hp)];simp[List.flatMap_cons,entOut,hp,ih]
   ·rw[List.filter_cons_of_pos (by simpa using hp)];simp[List.flatMap_cons,entOut,hp,ih]
 rw[h1,<-List.map_mergeSort (r:=fun a b => !ltE b.1 a.1)];intro a _ b _;rfl
theorem getE_bd {S:Nat}{l:List Ent}(h:Bd S l){e:Ex3}{y:Rat}(hy:getE l e=some y):qz y<=S:=h _ (getE_mem hy)
def paL:FStmt:=f155.body.r.r.l.r.bl.lp
def paS (es:List D)(k:Nat)(L:List AObj)(t:FV):St:=(st0 [.u,.u,.u,.m (.loc 0),.u,.d (.s 6 es),.d (.v (.int .i64 es.length)),.d (.v (.int .i64 k)),t] L)
theorem pa_round (es:List D)(k:Nat)(L:List AObj)(l:List Ent)(p:Ent)(hn:es.length<=1000000)(hk:es[k]?=some (qC p.1 p.2))(hL:L[0]?=some (.map (l.map entD)))(hp:qz p.2<=50000)(hl:Bd 50000 l)(hf:fitsE p.1=true) :
  ∃ L',Ex E1 paL (paS es k L .u) (.norm,paS es (k+1) L' .u)/\L'[0]?=some (.map ((putE l p.1 p.2).map entD)):=by
 obtain⟨e,x⟩:=p;have hkl:k<es.length:=(List.getElem?_eq_some_iff.1 hk).1;have hB:(List.map (AObj.toOld 0) (L++[AObj.box [.d (.v (.int .i64 e.1)),.d (.v (.int .i64 e.2.1)),.d (.v (.int .i64 e.2.2)),.d (.v (.bool (qs x))),.d (LD (qn x)),.d (LD (qd x))]]))[0]?=some (.map (l.map entD)):=by
  cases L with
  | nil=>cases hL
  | cons o r=>simp only[List.getElem?_cons_zero,Option.some.injEq]at hL;subst hL;rfl
 obtain⟨N,B',t,hlen,hB'⟩:=run_padd _ 0 l hB e x hp (fun y hy=>getE_bd hl hy) (fits_deg hf);refine⟨B',Ex.of (n:=N+200) ?_,hB'⟩;have hinc:wrapS .i64 ((k:Int)+1)=(k:Int)+1:=wrap_i64 (by omega);have hk1:((k+1:Nat):Int)=(k:Int)+1:=by omega
 have hk0:(0:Int)<=(k:Int):=by omega
 have hkc:(k:Int)<(es.length:Int):=by omega
 clear hB hB' hlen hp hl hf;obtain⟨a,b,c⟩:=e;unfold paS;rw[hk1];simp only[qC,moC,exD,qD,raw]at*;generalize qs x=s at*;simp only[LD]at*;generalize LL (qn x)=ns,LL (qd x)=ds at*;have i1:=idx hk;simp only[List.map_append,List.map_cons,List.map_nil,AObj.toOld,FV.toOldL,FV.toOld]at t;simp -implicitDefEqProofs [paL,f155,hinc,hk0,hkc,hk,i1,t,FV.toOld,FV.toOldL,AObj.toOld]
theorem take_acc {ms:List Ent}{k:Nat}{p:Ent}(h:ms[k]?=some p):accP [] (ms.take (k+1))=putE (accP [] (ms.take k)) p.1 p.2:=by
 rw[List.take_add_one,h];show accP [] (ms.take k++[p])=_;rw[accP_append];rfl
theorem pa_loop (ms:List Ent)(L:List AObj)(S:Nat)(hn:ms.length<=1000000)(hL:L[0]?=some (.map []))(hf:Fits ms)(hb:Bd S ms)(hS:S<=50000)(hm:ms.length*(S+1)<=50000) :
  ∃ L',Ex E1 (.loop paL) (paS (ms.map fun p=>qC p.1 p.2) 0 L .u) (.exit 0,paS (ms.map fun p=>qC p.1 p.2) ms.length L' (.d (.v (.bool false))))/\L'[0]?=some (.map ((accP [] ms).map entD)):=by
 have hlen:(ms.map fun p=>qC p.1 p.2).length=ms.length:=by simp
 obtain⟨r,h1,L',h2,h3⟩:=Ex.inv (E:=E1) (b:=paL) (α:=Nat × List AObj) (S:=fun a=>paS (ms.map fun p=>qC p.1 p.2) a.1 a.2 .u) (fun a=>ms.length-a.1)
  (fun a=>a.1<=ms.length/\a.2[0]?=some (.map ((accP [] (ms.take a.1)).map entD))) (fun r=>∃ L',r=(.exit 0,paS (ms.map fun p=>qC p.1 p.2) ms.length L' (.d (.v (.bool false))))/\L'[0]?=some (.map ((accP [] ms).map entD))) (by
   rintro⟨k,L⟩ ⟨q1,q2⟩;simp only at q1 q2
   by_cases hk:k<ms.length
   ·have hp:ms[k]?=some ms[k]:=List.getElem?_eq_getElem hk;have hpm:ms[k] ∈ ms:=List.getElem_mem hk;have hp2:(ms.map fun p=>qC p.1 p.2)[k]?=some (qC ms[k].1 ms[k].2):=by rw[List.getElem?_map,hp];rfl
    have hbd:Bd 50000 (accP [] (ms.take k)):=by
     refine(acc_bd (S:=0) (T:=S) (fun p hp=>by cases hp) (fun p hp=>hb p (List.mem_of_mem_take hp))).mono ?_;rw[List.length_take,Nat.zero_add];exact Nat.le_trans (Nat.mul_le_mul_right _ (Nat.min_le_right _ _)) hm
    obtain⟨L',g1,g2⟩:=pa_round _ k L _ ms[k] (by rw[hlen];exact hn) hp2 q2 (Nat.le_trans (hb _ hpm) hS) hbd (hf _ hpm);refine .inl ⟨(k+1,L'),g1,by show ms.length-(k+1)<ms.length-k;omega,by show k+1<=_;omega,?_⟩;show L'[0]?=some (.map ((accP [] (ms.take (k+1))).map entD));rw[take_acc hp];exact g2
   ·obtain rfl:k=ms.length:=by omega
    rw[List.take_length]at q2;refine .inr ⟨_,Ex.of (n:=60) ?_,?_,L,rfl,q2⟩
    ·simp only[paS,hlen];generalize (ms.map fun p=>qC p.1 p.2)=es at*;generalize ms.length=n at*;simp -implicitDefEqProofs [paL,f155]
    ·simp) (0,L) ⟨Nat.zero_le _,hL⟩
 subst h2;exact⟨L',h1,h3⟩
theorem pv_none {S:Nat}:∀ {l:List Ent} {q:Option Mo},PV S l->(∀ m,q=some m->∀ p ∈ l,ltE m.e p.1=true)->pvB q (l.map entMo)=true
 | [],_,_,_=>by simp[pvB]
 | p::l,q,h,hq=>by
  have hs:=List.pairwise_cons.1 h.srt;have hfit:(entMo p).fits=true:=by
   unfold Mo.fits entMo;have h1:=h.fits p (List.mem_cons_self ..);have h2:qn p.2≠[]:=by
    have h3:=h.nz p (List.mem_cons_self ..);intro h4;have h5:p.2.num.natAbs=0:=by
     have:=val_enc (p.2.num.natAbs);unfold qn at h4;rw[h4]at this;simpa[val] using this.symm
    exact h3 (Rat.num_eq_zero.1 (Int.natAbs_eq_zero.1 h5))
   simp[h1,h2,validR_qD]
  have hr:pvB (some (entMo p)) (l.map entMo)=true:=pv_none (S:=S) ⟨hs.2,fun x hx=>h.nz x (List.mem_cons_of_mem _ hx),fun x hx=>h.fits x (List.mem_cons_of_mem _ hx),fun x hx=>h.bd x (List.mem_cons_of_mem _ hx)⟩ (fun m hm x hx=>by cases hm;exact hs.1 x hx);cases q with
  | none=>simp only[List.map_cons,pvB,hfit,hr,Bool.and_self]
  | some m =>
   have h6:ordE m.e (entMo p).e<0:=of_decide_eq_true (hq m rfl p (List.mem_cons_self ..));simp only[List.map_cons,pvB,hfit,hr,decide_eq_true h6,Bool.and_self]
theorem po_of {S:Nat}{l:List Ent}(h:PV S l)(hS:S<=1000):Po (l.map entMo):=by
 refine⟨fun m hm => ?_,by have:=h.length;simp;omega⟩;obtain⟨p,hp,rfl⟩:=List.mem_map.1 hm;have hb:=h.bd p hp;have h1:(qn p.2).length<=qz p.2:=Nat.le_max_left _ _;have h2:(qd p.2).length<=qz p.2:=by
  unfold qd;split
  ·simp
  ·exact Nat.le_max_right _ _
 exact⟨lim_qn _,lim_qd _,Nat.le_trans h1 (Nat.le_trans hb hS),Nat.le_trans h2 (Nat.le_trans hb hS)⟩
theorem ca_pvalue {S:Nat}{l:List Ent}(h:PV S l)(hS:S<=1000):Ca E1 208 [.d (polD l)] (.d (polD l),none):=by
 have h1:=ca_pvalid _ (po_of h hS);rw[pv_none h (fun m hm=>by cases hm),<-polD_eq]at h1;obtain⟨N,t⟩:=(Ca.up1 h1).get;refine Ca.ofS (n:=N+60) ?_;rw[CL_fn rfl (k208:E1.fn _=_) rfl];unfold polD at*;generalize (l.map fun p=>qC p.1 p.2)=es at*;simp -implicitDefEqProofs [f208,t]
theorem acc_listOk {S:Nat}{ms:List Ent}(hf:Fits ms)(hb:Bd S ms)(hm:ms.length*(S+1)<=50000):listOk (accP [] ms)=true:=by
 have hk:Keys (accP [] ms):=acc_keys keys_nil;have hF:Fits (accP [] ms):=acc_fits (fun p hp=>by cases hp) hf;have hB:Bd (0+ms.length*(S+1)) (accP [] ms):=acc_bd (fun p hp=>by cases hp) hb;have hl:=keys_length hk hF;unfold listOk;simp only[Bool.and_eq_true,decide_eq_true_eq,List.all_eq_true];exact⟨⟨hk,fun p hp=>by have:=hB p hp;omega⟩,by omega⟩
theorem run_listP {S:Nat}{L:List AObj}{ms:List Ent}(hL:L[0]?=some (.map ((accP [] ms).map entD)))(hf:Fits ms)(hb:Bd S ms)(hm:ms.length*(S+1)<=50000)(m:Nat) :
  CL E1 m 206 [.m (.old 0)] (List.map (AObj.toOld 0) L)=some (.d (polD (canon (accP [] ms))),none):=by
 have hB:(List.map (AObj.toOld 0) L)[0]?=some (.map ((accP [] ms).map entD)):=by rw[List.getElem?_map,hL];rfl
 rw[run1_list m 0 _ _ hB (acc_listOk hf hb hm),listD_eq]
theorem ca_padd {S:Nat}{a b:List Ent}(ha:PV S a)(hb:PV S b)(hS:S<=1000)(hm:(a++b).length*(S+1)<=50000):Ca E1 155 [.d (polD a),.d (polD b)] (.d (polD (addP a b)),none):=by
 have hf:Fits (a++b):=fun p hp=>by
  rcases List.mem_append.1 hp with hp|hp
  ·exact ha.fits p hp
  ·exact hb.fits p hp
 have hB:Bd S (a++b):=fun p hp=>by
  rcases List.mem_append.1 hp with hp|hp
  ·exact ha.bd p hp
  ·exact hb.bd p hp
 have la:=ha.length;have lb:=hb.length;have hlen:(a++b).length<=1000000:=by rw[List.length_append];omega
 obtain⟨N1,t1⟩:=(ca_pvalue ha hS).any;obtain⟨N2,t2⟩:=(ca_pvalue hb hS).any;obtain⟨o,hc,ho⟩:=ca_concat (a.map fun p=>qC p.1 p.2) (b.map fun p=>qC p.1 p.2) (by simp;omega) (by simp;omega);obtain⟨N3,t3⟩:=(Ca.up1 hc).any;obtain⟨M,hM⟩:∃ M,M=N1+N2+N3:=⟨_,rfl⟩
 replace t1:=t1 M (by omega);replace t2:=t2 M (by omega);replace t3:=t3 M (by omega);have e1:(a.map fun p=>qC p.1 p.2)++(b.map fun p=>qC p.1 p.2)=(a++b).map fun p=>qC p.1 p.2:=by simp
 rw[e1]at t3;have hAB:Ex E1 f155.body.l (st0 [.d (polD a),.d (polD b),.u,.u,.u,.u,.u,.u,.u] []) (.norm,(st0 [.d (polD a),.d (polD b),.u,.u,.u,.u,.u,.u,.u] [])):=by
  refine Ex.of (n:=60) ?_;generalize polD a=x1;generalize polD b=x2;simp -implicitDefEqProofs [f155]
 have hMk:Ex E1 f155.body.r.l (st0 [.d (polD a),.d (polD b),.u,.u,.u,.u,.u,.u,.u] []) (.norm,(st0 [.d (polD a),.d (polD b),.u,.m (.loc 0),.u,.u,.u,.u,.u] [.map []])):=by
  refine Ex.of (n:=60) ?_;generalize polD a=x1;generalize polD b=x2;simp -implicitDefEqProofs [f155]
 have hC:∃ L,L[0]?=some (.map [])/\Ex E1 f155.body.r.r.l.l (st0 [.d (polD a),.d (polD b),.u,.m (.loc 0),.u,.u,.u,.u,.u] [.map []]) (.norm,paS ((a++b).map fun p=>qC p.1 p.2) 0 L .u):=by
  rcases ho with rfl|⟨x,rfl⟩
  ·refine⟨[.map []],rfl,Ex.of (n:=M+100) ?_⟩;unfold polD paS ccX at*;generalize ((a++b).map fun p=>qC p.1 p.2)=es at*;generalize (a.map fun p=>qC p.1 p.2)=es1 at*;generalize (b.map fun p=>qC p.1 p.2)=es2 at*;simp -implicitDefEqProofs [f155,t1,t2,t3]
  ·refine⟨[.map [],AObj.shift 1 x],rfl,Ex.of (n:=M+100) ?_⟩;unfold polD paS ccX at*;generalize ((a++b).map fun p=>qC p.1 p.2)=es at*;generalize (a.map fun p=>qC p.1 p.2)=es1 at*;generalize (b.map fun p=>qC p.1 p.2)=es2 at*;simp -implicitDefEqProofs [f155,t1,t2,t3]
 obtain⟨L,hL,hC⟩:=hC;obtain⟨L',hl,hL'⟩:=pa_loop (a++b) L S hlen hL hf hB (by omega) hm;have t4:=fun m=>run_listP hL' hf hB hm m
 have hpd:polD (canon (accP [] (a++b)))=polD (addP a b):=rfl;rw[hpd]at t4;have hD:Ex E1 f155.body.r.r.r (paS ((a++b).map fun p=>qC p.1 p.2) (a++b).length L' (.d (.v (.bool false)))) (.ret,(st0 [.u,.u,.d (polD (addP a b)),.u,.u,.u,.u,.u,.u] (L'))):=by
  refine Ex.of (n:=100) ?_;unfold polD paS at*;generalize ((a++b).map fun p=>qC p.1 p.2)=es at*;generalize ((addP a b).map fun p=>qC p.1 p.2)=es1 at*;simp -implicitDefEqProofs [f155,t4,FV.toOld,FV.toOldL]
 refine Ca.body (o:=.ret) (st1:=(st0 [.u,.u,.d (polD (addP a b)),.u,.u,.u,.u,.u,.u] (L'))) rfl (k155:E1.fn _=_) rfl ?_ (by intro id h;cases h) ?_
 ·show Ex E1 (.seq f155.body.l (.seq f155.body.r.l (.seq (.seq f155.body.r.r.l.l (.block 0 (.loop paL))) f155.body.r.r.r))) _ _;exact hAB.seq (hMk.seq ((hC.seq hl.block).seq hD))
 ·unfold polD;generalize ((addP a b).map fun p=>qC p.1 p.2)=es1 at*;simp -implicitDefEqProofs [f155]
theorem run_padd2 (B:List AObj)(i:Nat)(l:List Ent)(hB:B[i]?=some (.map (l.map entD)))(e:Int × Int × Int)(c:Rat)(hc:qz c<=50000)(hl:∀ y,getE l e=some y->qz y<=50000)(hd:degW e<=5) :
  ∃ N B',(∀ k,CL E1 (N+k) 205 [.m (.old i),.d (exD e),.d (qD c)] B=some (.d (.t []),some B'))/\B.length<=B'.length/\B'[i]?=some (.map ((putE l e c).map entD))/\∀ j,j≠i->j<B.length->B'[j]?=(B[j]?).map (AObj.toOld B.length):=by
 have hz:qz 0<=50000:=Nat.le_trans qz_zero (by omega);have hold:qz ((getE l e).getD 0)<=50000:=by
  cases h:getE l e with
  | none=>exact hz
  | some y=>exact hl y h
 obtain⟨N,t⟩:=(Ca.up1 (ca_addq ((getE l e).getD 0) c (by omega) (by omega))).get;have t2:=fun m=>run1_degree m e
 have hil:i<B.length:=(List.getElem?_eq_some_iff.1 hB).1;have hBi:∀ L,(B++L)[i]?=some (.map (l.map entD)):=fun L=>by rw[List.getElem?_append_left hil];exact hB
 have hf:=mfind_ent e l;have hs:=mset_ent e ((getE l e).getD 0+c) l;have hk:=keyOk_ex e;have hput:setE l e ((getE l e).getD 0+c)=putE l e c:=rfl;rw[hput]at hs;generalize (putE l e c).map entD=es',(getE l e).getD 0+c=sm,l.map entD=es,degW e=dg at*;refine⟨N+200,((B.set i (AObj.map es'))++[AObj.box [.d (.v (.int .i64 e.1)),.d (.v (.int .i64 e.2.1)),.d (.v (.int .i64 e.2.2))],AObj.box [.d (.v (.bool (qs c))),.d (LD (qn c)),.d (LD (qd c))]]).map (AObj.toOld B.length),fun k => ?_,by simp,by rw[List.getElem?_map,List.getElem?_append_left (by simpa using hil),List.getElem?_set_self hil];rfl,fun j hj hjl=>by rw[List.getElem?_map,List.getElem?_append_left (by simpa using hjl),List.getElem?_set_ne (fun h=>hj h.symm)]⟩;replace t:=fun j=>t (k+j)
 simp only[<-Nat.add_assoc]at t;rw[show N+200+k=N+k+200 by omega];generalize N+k=M at*;rw[CL_fn rfl (k205:E1.fn _=_) rfl];obtain⟨x,y,z⟩:=e;cases hg:getE l (x,y,z) with
 | none =>
  rw[hg]at hf t;simp only[Option.map_none,Option.getD_none,qD_zero]at hf t;simp only[exD,qD,raw]at*;generalize qs c=s,qs sm=s' at*;simp only[LD]at*;generalize LL (qn c)=ns,LL (qd c)=ds,LL (qn sm)=ns',LL (qd sm)=ds' at*;simp -implicitDefEqProofs [f205,t,t2,hd,mkT,hBi,hf,hs,hk,hil,FV.toOld]
 | some u =>
  rw[hg]at hf t;simp only[Option.map_some,Option.getD_some]at hf t;simp only[exD,qD,raw]at*;generalize qs c=s,qs sm=s',qs u=s'' at*;simp only[LD]at*;generalize LL (qn c)=ns,LL (qd c)=ds,LL (qn sm)=ns',LL (qd sm)=ds',LL (qn u)=ns'',LL (qd u)=ds'' at*;simp -implicitDefEqProofs [f205,t,t2,hd,mkT,hBi,hf,hs,hk,hil,FV.toOld]
def pmO:FStmt:=f157.body.r.r.l.r.bl.lp
def pmX1:FStmt:=pmO.r.r.l.bl
def pmI:FStmt:=pmX1.r.r.bl.lp
def pmX3:FStmt:=pmI.r.r.l.bl
def pmE:FStmt:=pmX3.r.r.l.r.bl.lp
def exB (e:Ex3):AObj:=.box [.d (.v (.int .i64 e.1)),.d (.v (.int .i64 e.2.1)),.d (.v (.int .i64 e.2.2))]
def moB (p:Ent):AObj:=.box [.d (.v (.int .i64 p.1.1)),.d (.v (.int .i64 p.1.2.1)),.d (.v (.int .i64 p.1.2.2)),.d (.v (.bool (qs p.2))),.d (LD (qn p.2)),.d (LD (qd p.2))]
def pmS (xa xb:List D)(v4 v5 v6:FV)(i j:Nat)(v12 v13 v14 v16 t:FV)(L:List AObj):St :=
 (st0 [.u,.d (.s 6 xb),.u,.m (.loc 0),v4,v5,v6,.u,.d (.s 6 xa),.d (.v (.int .i64 xa.length)),.d (.v (.int .i64 i)),.u,v12,v13,v14,.u,v16,t] L)
theorem pe_loop (xa xb:List D)(v4 v12 v13 v14:FV)(i i5 i6:Nat)(L:List AObj)(e:Ex3)(q:Ent)(h56:i5≠i6)(h5:L[i5]?=some (moB q))(h6:L[i6]?=some (exB e))(he:fitsE e=true)(hq:fitsE q.1=true) :
  Ex E1 pmX3.r.r.l (pmS xa xb v4 (.r (.loc i5) 0) (.r (.loc i6) 0) i 0 v12 v13 v14 .u .u L)
   (.norm,pmS xa xb v4 (.r (.loc i5) 0) (.r (.loc i6) 0) i 0 v12 v13 v14 (.d (.v (.int .i64 3))) (.d (.v (.bool false))) (L.set i6 (exB (e.1+q.1.1,e.2.1+q.1.2.1,e.2.2+q.1.2.2)))):=by
 have h1:=fits_range he;have h2:=fits_range hq;obtain⟨a,b,c⟩:=e;obtain⟨⟨a',b',c'⟩,x⟩:=q;simp only at h1 h2;have w1:wrapS .i64 (a+a')=a+a':=wrap_i64 (by omega);have w2:wrapS .i64 (b+b')=b+b':=wrap_i64 (by omega);have w3:wrapS .i64 (c+c')=c+c':=wrap_i64 (by omega);have u1:wrapS .i64 1=1:=wrap_i64 (by omega);have u2:wrapS .i64 2=2:=wrap_i64 (by omega);have u3:wrapS .i64 3=3:=wrap_i64 (by omega);have hl:i6<L.length:=(List.getElem?_eq_some_iff.1 h6).1;have g5:∀ o,(L.set i6 o)[i5]?=some (moB ((a',b',c'),x)):=fun o=>by rw[List.getElem?_set_ne (fun h=>h56 h.symm)];exact h5
 have g6:∀ o,(L.set i6 o)[i6]?=some o:=fun o=>List.getElem?_set_self hl
 have gs:∀ o o',(L.set i6 o).set i6 o'=L.set i6 o':=fun o o'=>List.set_set ..
 refine Ex.of (n:=200) ?_;unfold pmS;simp only[moB,exB]at*;generalize qs x=s,LD (qn x)=ns,LD (qd x)=ds at*;generalize xa.length=n;simp -implicitDefEqProofs [pmX3,pmE,pmI,pmX1,pmO,f157,EX_loop,w1,w2,w3,u1,u2,u3,h5,h6,g5,g6,gs]
theorem degW_mid {e:Ex3}(h1:0<=e.1/\e.1<=10)(h2:0<=e.2.1/\e.2.1<=10)(h3:0<=e.2.2/\e.2.2<=10):degW e=e.1+e.2.1+e.2.2:=by
 unfold degW;rw[wrap_i64 (z:=0+e.1) (by omega),wrap_i64 (z:=0+e.1+e.2.1) (by omega),wrap_i64 (by omega)];omega
def addE (a b:Ex3):Ex3:=(a.1+b.1,a.2.1+b.2.1,a.2.2+b.2.2)
theorem moB_old (p:Ent)(n:Nat):AObj.toOld n (moB p)=moB p:=by simp[moB,AObj.toOld,FV.toOldL,FV.toOld]
theorem pi_round (xa xb:List D)(i i4 j:Nat)(L:List AObj)(l:List Ent)(p q:Ent)(hj:xb[j]?=some (qC q.1 q.2))(hn:xb.length<=1000000)(h4:i4≠0)(hL0:L[0]?=some (.map (l.map entD)))(hL4:L[i4]?=some (moB p))
  (hp:fitsE p.1=true) (hq:fitsE q.1=true) (sp:qz p.2<=20000) (sq:qz q.2<=20000) (hl:Bd 50000 l) :
  ∃ L',Ex E1 pmI (pmS xa xb (.r (.loc i4) 0) .u .u i 0 (.d (.s 6 xb)) (.d (.v (.int .i64 xb.length))) (.d (.v (.int .i64 j))) .u .u L) (.norm,pmS xa xb (.r (.loc i4) 0) .u .u i 0 (.d (.s 6 xb)) (.d (.v (.int .i64 xb.length))) (.d (.v (.int .i64 (j+1:Nat)))) .u .u L') /\
   L'[0]?=some (.map ((if fitsE (addE p.1 q.1) then putE l (addE p.1 q.1) (p.2*q.2) else l).map entD))/\L'[i4]?=some (moB p):=by
 have hjl:j<xb.length:=(List.getElem?_eq_some_iff.1 hj).1;have l4:i4<L.length:=(List.getElem?_eq_some_iff.1 hL4).1;have l0:0<L.length:=by omega
 have hinc:wrapS .i64 ((j:Int)+1)=(j:Int)+1:=wrap_i64 (by omega);have hk1:((j+1:Nat):Int)=(j:Int)+1:=by omega
 have hk0:(0:Int)<=(j:Int):=by omega
 have hkc:(j:Int)<(xb.length:Int):=by omega
 have r1:=fits_range hp;have r2:=fits_range hq;have hA1:Ex E1 pmI.l (pmS xa xb (.r (.loc i4) 0) .u .u i 0 (.d (.s 6 xb)) (.d (.v (.int .i64 xb.length))) (.d (.v (.int .i64 j))) .u .u L) (.norm,{pmS xa xb (.r (.loc i4) 0) .u .u i 0 (.d (.s 6 xb)) (.d (.v (.int .i64 xb.length))) (.d (.v (.int .i64 j))) .u .u L with vars:=(pmS xa xb (.r (.loc i4) 0) .u .u i 0 (.d (.s 6 xb)) (.d (.v (.int .i64 xb.length))) (.d (.v (.int .i64 j))) .u .u L).vars.set 15 (.d (.v (.bool true)))}):=by
  refine Ex.of (n:=60) ?_;unfold pmS;simp -implicitDefEqProofs [pmI,pmX1,pmO,f157,hkc]
 have hA2:Ex E1 pmI.r.l {pmS xa xb (.r (.loc i4) 0) .u .u i 0 (.d (.s 6 xb)) (.d (.v (.int .i64 xb.length))) (.d (.v (.int .i64 j))) .u .u L with vars:=(pmS xa xb (.r (.loc i4) 0) .u .u i 0 (.d (.s 6 xb)) (.d (.v (.int .i64 xb.length))) (.d (.v (.int .i64 j))) .u .u L).vars.set 15 (.d (.v (.bool true)))} (.norm,{pmS xa xb (.r (.loc i4) 0) .u .u i 0 (.d (.s 6 xb)) (.d (.v (.int .i64 xb.length))) (.d (.v (.int .i64 j))) .u .u L with vars:=(pmS xa xb (.r (.loc i4) 0) .u .u i 0 (.d (.s 6 xb)) (.d (.v (.int .i64 xb.length))) (.d (.v (.int .i64 j))) .u .u L).vars.set 15 (.d (.v (.bool true)))}):=by
  refine Ex.of (n:=60) ?_;unfold pmS;simp -implicitDefEqProofs [pmI,pmX1,pmO,f157]
 have hB:Ex E1 pmX3.l {pmS xa xb (.r (.loc i4) 0) .u .u i 0 (.d (.s 6 xb)) (.d (.v (.int .i64 xb.length))) (.d (.v (.int .i64 j))) .u .u L with vars:=(pmS xa xb (.r (.loc i4) 0) .u .u i 0 (.d (.s 6 xb)) (.d (.v (.int .i64 xb.length))) (.d (.v (.int .i64 j))) .u .u L).vars.set 15 (.d (.v (.bool true)))}
   (.norm,pmS xa xb (.r (.loc i4) 0) (.r (.loc L.length) 0) .u i 0 (.d (.s 6 xb)) (.d (.v (.int .i64 xb.length))) (.d (.v (.int .i64 j))) .u .u (L++[moB q])):=by
  refine Ex.of (n:=60) ?_;unfold pmS;obtain⟨⟨a',b',c'⟩,y⟩:=q;simp only[moB,qC,moC,LD]at*;generalize qs y=s,LL (qn y)=ns,LL (qd y)=ds at*;have i1:=idx hj;simp -implicitDefEqProofs [pmX3,pmI,pmX1,pmO,f157,hkc,hk0,hjl,hj,i1]
 have hC:Ex E1 pmX3.r.l (pmS xa xb (.r (.loc i4) 0) (.r (.loc L.length) 0) .u i 0 (.d (.s 6 xb)) (.d (.v (.int .i64 xb.length))) (.d (.v (.int .i64 j))) .u .u (L++[moB q]))
   (.norm,pmS xa xb (.r (.loc i4) 0) (.r (.loc L.length) 0) (.r (.loc (L.length+1)) 0) i 0 (.d (.s 6 xb)) (.d (.v (.int .i64 xb.length))) (.d (.v (.int .i64 j))) .u .u (L++[moB q]++[exB p.1])):=by
  have g4:(L++[moB q])[i4]?=some (moB p):=by rw[List.getElem?_append_left l4];exact hL4
  refine Ex.of (n:=60) ?_;have gl:(L++[moB q]).length=L.length+1:=by simp
  unfold pmS;generalize (L++[moB q])=L1 at*;obtain⟨⟨a',b',c'⟩,y⟩:=p;simp only[moB,exB]at*;generalize qs y=s,LD (qn y)=ns,LD (qd y)=ds at*;simp -implicitDefEqProofs [pmX3,pmI,pmX1,pmO,f157,g4,gl]
 have hE:=pe_loop xa xb (.r (.loc i4) 0) (.d (.s 6 xb)) (.d (.v (.int .i64 xb.length))) (.d (.v (.int .i64 j))) i L.length (L.length+1) (L++[moB q]++[exB p.1]) p.1 q (by omega) (by simp) (by simp) hp hq;have hset:(L++[moB q]++[exB p.1]).set (L.length+1) (exB (addE p.1 q.1))=L++[moB q]++[exB (addE p.1 q.1)]:=by
  rw[List.set_append_right _ _ (by simp)];simp
 have hadd:(p.1.1+q.1.1,p.1.2.1+q.1.2.1,p.1.2.2+q.1.2.2)=addE p.1 q.1:=rfl;rw[hadd,hset]at hE;have hN:∃ L',Ex E1 pmX3.r.r.r (pmS xa xb (.r (.loc i4) 0) (.r (.loc L.length) 0) (.r (.loc (L.length+1)) 0) i 0 (.d (.s 6 xb)) (.d (.v (.int .i64 xb.length))) (.d (.v (.int .i64 j))) (.d (.v (.int .i64 3))) (.d (.v (.bool false))) (L++[moB q]++[exB (addE p.1 q.1)]))
   (.norm,pmS xa xb (.r (.loc i4) 0) .u .u i 0 (.d (.s 6 xb)) (.d (.v (.int .i64 xb.length))) (.d (.v (.int .i64 j))) .u .u L') /\
   L'[0]?=some (.map ((if fitsE (addE p.1 q.1) then putE l (addE p.1 q.1) (p.2*q.2) else l).map entD))/\L'[i4]?=some (moB p):=by
  obtain⟨N1,t1⟩:=(Ca.up1 (ca_mulq p.2 q.2 (by omega) (by omega))).any;have hz:=qz_mul p.2 q.2;have g0:(L++[moB q]++[exB (addE p.1 q.1)])[0]?=some (.map (l.map entD)):=by rw[List.append_assoc,List.getElem?_append_left l0];exact hL0
  have g4:(L++[moB q]++[exB (addE p.1 q.1)])[i4]?=some (moB p):=by rw[List.append_assoc,List.getElem?_append_left l4];exact hL4
  have g5:(L++[moB q]++[exB (addE p.1 q.1)])[L.length]?=some (moB q):=by simp
  have g6:(L++[moB q]++[exB (addE p.1 q.1)])[L.length+1]?=some (exB (addE p.1 q.1)):=by simp
  generalize (L++[moB q]++[exB (addE p.1 q.1)])=L3 at*;clear hA1 hA2 hB hC hE hset hL0 hL4;have m0:(List.map (AObj.toOld 0) L3)[0]?=some (.map (l.map entD)):=by rw[List.getElem?_map,g0];rfl
  by_cases hfit:fitsE (addE p.1 q.1)=true
  ·obtain⟨N2,B',t2,hlen,hB0,hBj⟩:=run_padd2 (List.map (AObj.toOld 0) L3) 0 l m0 (addE p.1 q.1) (p.2*q.2) (by omega) (fun y hy=>getE_bd hl hy) (fits_deg hfit);rw[if_pos hfit];have hB4:B'[i4]?=some (moB p):=by
    rw[hBj i4 h4 (by simpa using(List.getElem?_eq_some_iff.1 g4).1),List.getElem?_map,g4];simp[moB_old]
   refine⟨B',?_,hB0,hB4⟩;clear hBj hB0 hB4 hlen m0 g0 hl;obtain⟨M,hM⟩:∃ M,M=N1+N2:=⟨_,rfl⟩
   replace t1:=t1 M (by omega);replace t2:=fun k=>CL_mono (t2 0) (show N2+0<=M+k by omega)
   refine Ex.of (n:=M+100) ?_;unfold pmS;generalize addE p.1 q.1=e,p.2*q.2=z at*;obtain⟨⟨a,b,c⟩,x⟩:=p;obtain⟨⟨a',b',c'⟩,y⟩:=q;simp only[moB,exB,exD,qD,raw,LD]at*;generalize qs x=s,LL (qn x)=ns,LL (qd x)=ds,qs y=s',LL (qn y)=ns',LL (qd y)=ds',qs z=s'',LL (qn z)=ns'',LL (qd z)=ds'',xb.length=n at*;simp -implicitDefEqProofs [pmX3,pmI,pmX1,pmO,f157,g4,g5,g6,t1,t2,FV.toOld,FV.toOldL]
  ·have hdeg:¬ degW (addE p.1 q.1)<=5:=by
    intro hd;apply hfit;rw[degW_mid (by simp only[addE];omega) (by simp only[addE];omega) (by simp only[addE];omega)]at hd;rw[fits_iff];simp only[addE]at*;omega
   have t2:=fun n=>run_padd_no n (.m (.old 0)) (addE p.1 q.1) (p.2*q.2) (List.map (AObj.toOld 0) L3) hdeg
   rw[if_neg hfit];refine⟨L3,?_,g0,g4⟩;clear m0 g0 hl hdeg hfit;obtain⟨M,hM⟩:∃ M,M=N1+200:=⟨_,rfl⟩
   replace t1:=t1 M (by omega);replace t2:=fun k=>CL_mono (t2 0) (show 0+200<=M+k by omega)
   refine Ex.of (n:=M+100) ?_;unfold pmS;generalize addE p.1 q.1=e,p.2*q.2=z at*;obtain⟨⟨a,b,c⟩,x⟩:=p;obtain⟨⟨a',b',c'⟩,y⟩:=q;simp only[moB,exB,exD,qD,raw,LD]at*;generalize qs x=s,LL (qn x)=ns,LL (qd x)=ds,qs y=s',LL (qn y)=ns',LL (qd y)=ds',qs z=s'',LL (qn z)=ns'',LL (qd z)=ds'',xb.length=n at*;simp -implicitDefEqProofs [pmX3,pmI,pmX1,pmO,f157,g4,g5,g6,t1,t2,FV.toOld,FV.toOldL]
 obtain⟨L',hZ,z0,z4⟩:=hN;refine⟨L',?_,z0,z4⟩;have hF:Ex E1 pmI.r.r.r (pmS xa xb (.r (.loc i4) 0) .u .u i 0 (.d (.s 6 xb)) (.d (.v (.int .i64 xb.length))) (.d (.v (.int .i64 j))) .u .u L') (.norm,pmS xa xb (.r (.loc i4) 0) .u .u i 0 (.d (.s 6 xb)) (.d (.v (.int .i64 xb.length))) (.d (.v (.int .i64 (j+1:Nat)))) .u .u L'):=by
  refine Ex.of (n:=60) ?_;unfold pmS;rw[hk1];simp -implicitDefEqProofs [pmI,pmX1,pmO,f157,hinc]
 show Ex E1 (.seq pmI.l (.seq pmI.r.l (.seq (.block 3 (.seq pmX3.l (.seq pmX3.r.l (.seq pmX3.r.r.l pmX3.r.r.r)))) pmI.r.r.r))) _ _;exact hA1.seq (hA2.seq (((hB.seq (hC.seq (hE.seq hZ))).block_norm).seq hF))
def prodP (p:Ent)(b:List Ent):List Ent:=(b.map fun q=>(addE p.1 q.1,p.2*q.2)).filter fun x=>fitsE x.1
def prodE (a b:List Ent):List Ent:=a.flatMap fun p=>prodP p b
theorem prodP_snoc (p q:Ent)(b:List Ent):prodP p (b++[q])=prodP p b++(if fitsE (addE p.1 q.1) then [(addE p.1 q.1,p.2*q.2)] else []):=by
 unfold prodP;rw[List.map_append,List.filter_append]
 congr 1
 by_cases h:fitsE (addE p.1 q.1)=true
 ·simp[h]
 ·simp[h]
theorem prodP_length (p:Ent)(b:List Ent):(prodP p b).length<=b.length:=by
 unfold prodP;exact Nat.le_trans (List.length_filter_le _ _) (by simp)
theorem prodP_bd {S:Nat}{p:Ent}{b:List Ent}(hp:qz p.2<=S)(hb:Bd S b):Bd (2*S) (prodP p b):=by
 intro x hx;obtain⟨hx,_⟩:=List.mem_filter.1 hx;obtain⟨q,hq,rfl⟩:=List.mem_map.1 hx;have:=qz_mul p.2 q.2;have:=hb q hq;show qz (p.2*q.2)<=_;omega
theorem prodP_fits (p:Ent)(b:List Ent):Fits (prodP p b):=fun x hx=>(List.mem_filter.1 hx).2
theorem prodE_length (a b:List Ent):(prodE a b).length<=a.length*b.length:=by
 induction a with
 | nil=>simp[prodE]
 | cons p r ih =>
  have h1:prodE (p::r) b=prodP p b++prodE r b:=by simp[prodE]
  have h2:=prodP_length p b;rw[h1,List.length_append,List.length_cons,Nat.add_mul];omega
theorem prodE_bd {S:Nat}{a b:List Ent}(ha:Bd S a)(hb:Bd S b):Bd (2*S) (prodE a b):=by
 intro x hx;obtain⟨p,hp,hx⟩:=List.mem_flatMap.1 hx;exact prodP_bd (ha p hp) hb x hx
theorem prodE_fits (a b:List Ent):Fits (prodE a b):=fun x hx=>by
 obtain⟨p,_,hx⟩:=List.mem_flatMap.1 hx;exact prodP_fits p b x hx
theorem prodE_snoc (a b:List Ent)(p:Ent):prodE (a++[p]) b=prodE a b++prodP p b:=by simp[prodE,List.flatMap_append]
theorem pi_loop (xa:List D)(b:List Ent)(i i4:Nat)(L:List AObj)(l:List Ent)(p:Ent)(S T:Nat)(hn:b.length<=1000000)(h4:i4≠0)(hL0:L[0]?=some (.map (l.map entD)))(hL4:L[i4]?=some (moB p))
  (hp:fitsE p.1=true) (hq:Fits b) (sp:qz p.2<=S) (sq:Bd S b) (hS:S<=20000) (hl:Bd T l) (hm:T+b.length*(2*S+1)<=50000) :
  ∃ L' st',Ex E1 (.loop pmI) (pmS xa (b.map fun p=>qC p.1 p.2) (.r (.loc i4) 0) .u .u i 0 (.d (polD b)) (.d (.v (.int .i64 b.length))) (.d (.v (.int .i64 0))) .u .u L) (.exit 2,st') /\
   st'={pmS xa (b.map fun p=>qC p.1 p.2) (.r (.loc i4) 0) .u .u i 0 (.d (polD b)) (.d (.v (.int .i64 b.length))) (.d (.v (.int .i64 b.length))) .u .u L' with vars:=(pmS xa (b.map fun p=>qC p.1 p.2) (.r (.loc i4) 0) .u .u i 0 (.d (polD b)) (.d (.v (.int .i64 b.length))) (.d (.v (.int .i64 b.length))) .u .u L').vars.set 15 (.d (.v (.bool false)))} /\
   L'[0]?=some (.map ((accP l (prodP p b)).map entD))/\L'[i4]?=some (moB p):=by
 have hlen:(b.map fun p=>qC p.1 p.2).length=b.length:=by simp
 obtain⟨r,h1,L',h2,h3,h5⟩:=Ex.inv (E:=E1) (b:=pmI) (α:=Nat × List AObj) (S:=fun a=>pmS xa (b.map fun p=>qC p.1 p.2) (.r (.loc i4) 0) .u .u i 0 (.d (polD b)) (.d (.v (.int .i64 b.length))) (.d (.v (.int .i64 a.1))) .u .u a.2) (fun a=>b.length-a.1)
  (fun a=>a.1<=b.length/\a.2[0]?=some (.map ((accP l (prodP p (b.take a.1))).map entD))/\a.2[i4]?=some (moB p))
  (fun r=>∃ L',r=(.exit 2,{pmS xa (b.map fun p=>qC p.1 p.2) (.r (.loc i4) 0) .u .u i 0 (.d (polD b)) (.d (.v (.int .i64 b.length))) (.d (.v (.int .i64 b.length))) .u .u L' with vars:=(pmS xa (b.map fun p=>qC p.1 p.2) (.r (.loc i4) 0) .u .u i 0 (.d (polD b)) (.d (.v (.int .i64 b.length))) (.d (.v (.int .i64 b.length))) .u .u L').vars.set 15 (.d (.v (.bool false)))}) /\
   L'[0]?=some (.map ((accP l (prodP p b)).map entD))/\L'[i4]?=some (moB p)) (by
   rintro⟨k,L⟩ ⟨q1,q2,q3⟩;simp only at q1 q2 q3
   by_cases hk:k<b.length
   ·have hpk:b[k]?=some b[k]:=List.getElem?_eq_getElem hk;have hpm:b[k] ∈ b:=List.getElem_mem hk;have hp2:(b.map fun p=>qC p.1 p.2)[k]?=some (qC b[k].1 b[k].2):=by rw[List.getElem?_map,hpk];rfl
    have hbd:Bd 50000 (accP l (prodP p (b.take k))):=by
     refine(acc_bd hl (prodP_bd sp (fun x hx=>sq x (List.mem_of_mem_take hx)))).mono ?_;have e1:=prodP_length p (b.take k);have e2:(b.take k).length<=b.length:=by rw[List.length_take];omega
     exact Nat.le_trans (Nat.add_le_add_left (Nat.mul_le_mul_right _ (Nat.le_trans e1 e2)) _) hm
    obtain⟨L',g1,g2,g3⟩:=pi_round xa _ i i4 k L _ p b[k] hp2 (by rw[hlen];exact hn) h4 q2 q3 hp (hq _ hpm) (by omega) (by have:=sq _ hpm;omega) hbd;rw[hlen]at g1;refine .inl ⟨(k+1,L'),g1,by show b.length-(k+1)<b.length-k;omega,by show k+1<=_;omega,?_,g3⟩;show L'[0]?=some (.map ((accP l (prodP p (b.take (k+1)))).map entD));rw[List.take_add_one,hpk];show L'[0]?=some (.map ((accP l (prodP p (b.take k++[b[k]]))).map entD));rw[prodP_snoc,accP_append,g2]
    by_cases hf:fitsE (addE p.1 b[k].1)=true
    ·rw[if_pos hf,if_pos hf];rfl
    ·rw[if_neg hf,if_neg hf];rfl
   ·obtain rfl:k=b.length:=by omega
    rw[List.take_length]at q2;refine .inr ⟨_,Ex.of (n:=60) ?_,?_,L,rfl,q2,q3⟩
    ·simp only[pmS];generalize polD b=es at*;generalize (b.map fun p=>qC p.1 p.2)=es2 at*;generalize b.length=n at*;simp -implicitDefEqProofs [pmI,pmX1,pmO,f157]
    ·simp) (0,L) ⟨Nat.zero_le _,hL0,hL4⟩
 subst h2;exact⟨L',_,h1,rfl,h3,h5⟩
def mulP (a b:List Ent):List Ent:=canon (accP [] (prodE a b))
theorem po_round {S T:Nat}(a b:List Ent)(i:Nat)(L:List AObj)(l:List Ent)(p:Ent)(ha:a.length<=1000000)(hb:PV S b)(hS:S<=1000)(hi:a[i]?=some p)(hL0:L[0]?=some (.map (l.map entD)))
  (hp:fitsE p.1=true) (sp:qz p.2<=S) (hl:Bd T l) (hm:T+b.length*(2*S+1)<=50000) :
  ∃ L',Ex E1 pmO (pmS (a.map fun p=>qC p.1 p.2) (b.map fun p=>qC p.1 p.2) .u .u .u i 0 .u .u .u .u .u L) (.norm,pmS (a.map fun p=>qC p.1 p.2) (b.map fun p=>qC p.1 p.2) .u .u .u (i+1) 0 .u .u .u .u .u L') /\
   L'[0]?=some (.map ((accP l (prodP p b)).map entD)):=by
 have hlen:(a.map fun p=>qC p.1 p.2).length=a.length:=by simp
 have hlb:(b.map fun p=>qC p.1 p.2).length=b.length:=by simp
 have lb:=hb.length;have hil:i<a.length:=(List.getElem?_eq_some_iff.1 hi).1;have hi2:(a.map fun p=>qC p.1 p.2)[i]?=some (qC p.1 p.2):=by rw[List.getElem?_map,hi];rfl
 have hinc:wrapS .i64 ((i:Int)+1)=(i:Int)+1:=wrap_i64 (by omega);have hk1:((i+1:Nat):Int)=(i:Int)+1:=by omega
 have hk0:(0:Int)<=(i:Int):=by omega
 have hkc:(i:Int)<(a.length:Int):=by omega
 have l0:0<L.length:=(List.getElem?_eq_some_iff.1 hL0).1;obtain⟨N,t⟩:=(ca_pvalue hb hS).get;obtain⟨L',st',hL,rfl,z0,z4⟩:=pi_loop (a.map fun p=>qC p.1 p.2) b i L.length (L++[moB p]) l p S T (by omega) (by omega) (by rw[List.getElem?_append_left l0];exact hL0) (by simp) hp hb.fits sp hb.bd (by omega) hl hm;refine⟨L',?_,z0⟩;have hA1:Ex E1 pmO.l (pmS (a.map fun p=>qC p.1 p.2) (b.map fun p=>qC p.1 p.2) .u .u .u i 0 .u .u .u .u .u L)
   (.norm,{pmS (a.map fun p=>qC p.1 p.2) (b.map fun p=>qC p.1 p.2) .u .u .u i 0 .u .u .u .u .u L with vars:=(pmS (a.map fun p=>qC p.1 p.2) (b.map fun p=>qC p.1 p.2) .u .u .u i 0 .u .u .u .u .u L).vars.set 11 (.d (.v (.bool true)))}):=by
  refine Ex.of (n:=60) ?_;unfold pmS;rw[hlen];simp -implicitDefEqProofs [pmO,f157,hkc]
 have hA2:Ex E1 pmO.r.l {pmS (a.map fun p=>qC p.1 p.2) (b.map fun p=>qC p.1 p.2) .u .u .u i 0 .u .u .u .u .u L with vars:=(pmS (a.map fun p=>qC p.1 p.2) (b.map fun p=>qC p.1 p.2) .u .u .u i 0 .u .u .u .u .u L).vars.set 11 (.d (.v (.bool true)))}
   (.norm,{pmS (a.map fun p=>qC p.1 p.2) (b.map fun p=>qC p.1 p.2) .u .u .u i 0 .u .u .u .u .u L with vars:=(pmS (a.map fun p=>qC p.1 p.2) (b.map fun p=>qC p.1 p.2) .u .u .u i 0 .u .u .u .u .u L).vars.set 11 (.d (.v (.bool true)))}):=by
  refine Ex.of (n:=60) ?_;unfold pmS;rw[hlen];simp -implicitDefEqProofs [pmO,f157]
 have hB:Ex E1 pmX1.l {pmS (a.map fun p=>qC p.1 p.2) (b.map fun p=>qC p.1 p.2) .u .u .u i 0 .u .u .u .u .u L with vars:=(pmS (a.map fun p=>qC p.1 p.2) (b.map fun p=>qC p.1 p.2) .u .u .u i 0 .u .u .u .u .u L).vars.set 11 (.d (.v (.bool true)))}
   (.norm,pmS (a.map fun p=>qC p.1 p.2) (b.map fun p=>qC p.1 p.2) (.r (.loc L.length) 0) .u .u i 0 .u .u .u .u .u (L++[moB p])):=by
  refine Ex.of (n:=60) ?_;unfold pmS;have hil':i<(a.map fun p=>qC p.1 p.2).length:=by rw[hlen];exact hil
  clear hL z0 z4 t;rw[hlen];generalize (b.map fun p=>qC p.1 p.2)=es2 at*;generalize (a.map fun p=>qC p.1 p.2)=es1 at*;obtain⟨⟨a',b',c'⟩,y⟩:=p;simp only[moB,qC,moC,LD]at*;generalize qs y=s,LL (qn y)=ns,LL (qd y)=ds at*;have i1:=idx hi2;simp -implicitDefEqProofs [pmX1,pmO,f157,hkc,hk0,hil',hi2,i1]
 have hC:Ex E1 pmX1.r.l (pmS (a.map fun p=>qC p.1 p.2) (b.map fun p=>qC p.1 p.2) (.r (.loc L.length) 0) .u .u i 0 .u .u .u .u .u (L++[moB p]))
   (.norm,pmS (a.map fun p=>qC p.1 p.2) (b.map fun p=>qC p.1 p.2) (.r (.loc L.length) 0) .u .u i 0 (.d (polD b)) (.d (.v (.int .i64 b.length))) (.d (.v (.int .i64 0))) .u .u (L++[moB p])):=by
  refine Ex.of (n:=N+60) ?_;unfold pmS polD at*;clear hL z0 z4 hi2;generalize (L++[moB p])=L1 at*;rw[hlen,<-hlb];clear hlb lb;generalize (b.map fun p=>qC p.1 p.2)=es2 at*;generalize (a.map fun p=>qC p.1 p.2)=es1 at*;simp -implicitDefEqProofs [pmX1,pmO,f157,t]
 have hF:Ex E1 pmO.r.r.r {pmS (a.map fun p=>qC p.1 p.2) (b.map fun p=>qC p.1 p.2) (.r (.loc L.length) 0) .u .u i 0 (.d (polD b)) (.d (.v (.int .i64 b.length))) (.d (.v (.int .i64 b.length))) .u .u L' with vars:=(pmS (a.map fun p=>qC p.1 p.2) (b.map fun p=>qC p.1 p.2) (.r (.loc L.length) 0) .u .u i 0 (.d (polD b)) (.d (.v (.int .i64 b.length))) (.d (.v (.int .i64 b.length))) .u .u L').vars.set 15 (.d (.v (.bool false)))}
   (.norm,pmS (a.map fun p=>qC p.1 p.2) (b.map fun p=>qC p.1 p.2) .u .u .u (i+1) 0 .u .u .u .u .u L'):=by
  refine Ex.of (n:=60) ?_;unfold pmS;clear hL z0 z4 hi2 hB hC hA1 hA2;rw[hlen,hk1];generalize polD b=es3 at*;generalize (b.map fun p=>qC p.1 p.2)=es2 at*;generalize (a.map fun p=>qC p.1 p.2)=es1 at*;simp -implicitDefEqProofs [pmX1,pmO,f157,hinc]
 show Ex E1 (.seq pmO.l (.seq pmO.r.l (.seq (.block 1 (.seq pmX1.l (.seq pmX1.r.l (.block 2 (.loop pmI))))) pmO.r.r.r))) _ _;exact hA1.seq (hA2.seq (((hB.seq (hC.seq hL.block)).block_norm).seq hF))
theorem po_loop {S:Nat}(a b:List Ent)(L:List AObj)(ha:a.length<=1000000)(hb:PV S b)(hS:S<=1000)(hL0:L[0]?=some (.map []))(fa:Fits a)(sa:Bd S a)(hm:a.length*(b.length*(2*S+1))<=50000) :
  ∃ L' st',Ex E1 (.loop pmO) (pmS (a.map fun p=>qC p.1 p.2) (b.map fun p=>qC p.1 p.2) .u .u .u 0 0 .u .u .u .u .u L) (.exit 0,st') /\
   st'={pmS (a.map fun p=>qC p.1 p.2) (b.map fun p=>qC p.1 p.2) .u .u .u a.length 0 .u .u .u .u .u L' with vars:=(pmS (a.map fun p=>qC p.1 p.2) (b.map fun p=>qC p.1 p.2) .u .u .u a.length 0 .u .u .u .u .u L').vars.set 11 (.d (.v (.bool false)))} /\
   L'[0]?=some (.map ((accP [] (prodE a b)).map entD)):=by
 have hlen:(a.map fun p=>qC p.1 p.2).length=a.length:=by simp
 obtain⟨r,h1,L',h2,h3⟩:=Ex.inv (E:=E1) (b:=pmO) (α:=Nat × List AObj) (S:=fun x=>pmS (a.map fun p=>qC p.1 p.2) (b.map fun p=>qC p.1 p.2) .u .u .u x.1 0 .u .u .u .u .u x.2) (fun x=>a.length-x.1)
  (fun x=>x.1<=a.length/\x.2[0]?=some (.map ((accP [] (prodE (a.take x.1) b)).map entD)))
  (fun r=>∃ L',r=(.exit 0,{pmS (a.map fun p=>qC p.1 p.2) (b.map fun p=>qC p.1 p.2) .u .u .u a.length 0 .u .u .u .u .u L' with vars:=(pmS (a.map fun p=>qC p.1 p.2) (b.map fun p=>qC p.1 p.2) .u .u .u a.length 0 .u .u .u .u .u L').vars.set 11 (.d (.v (.bool false)))}) /\
   L'[0]?=some (.map ((accP [] (prodE a b)).map entD))) (by
   rintro⟨k,L⟩ ⟨q1,q2⟩;simp only at q1 q2
   by_cases hk:k<a.length
   ·have hpk:a[k]?=some a[k]:=List.getElem?_eq_getElem hk;have hpm:a[k] ∈ a:=List.getElem_mem hk;have hbd:Bd (k*(b.length*(2*S+1))) (accP [] (prodE (a.take k) b)):=by
     refine(acc_bd (S:=0) (T:=2*S) (fun p hp=>by cases hp) (prodE_bd (fun x hx=>sa x (List.mem_of_mem_take hx)) hb.bd)).mono ?_;have e1:=prodE_length (a.take k) b;have e2:(a.take k).length=k:=by rw[List.length_take];omega
     rw[e2]at e1;rw[Nat.zero_add,<-Nat.mul_assoc];exact Nat.mul_le_mul_right _ e1
    have hmm:k*(b.length*(2*S+1))+b.length*(2*S+1)<=50000:=by
     have:(k+1)*(b.length*(2*S+1))<=a.length*(b.length*(2*S+1)):=Nat.mul_le_mul_right _ (by omega);rw[Nat.add_mul,Nat.one_mul]at this;omega
    obtain⟨L',g1,g2⟩:=po_round a b k L _ a[k] ha hb hS hpk q2 (fa _ hpm) (sa _ hpm) hbd hmm;refine .inl ⟨(k+1,L'),g1,by show a.length-(k+1)<a.length-k;omega,by show k+1<=_;omega,?_⟩;show L'[0]?=some (.map ((accP [] (prodE (a.take (k+1)) b)).map entD));rw[List.take_add_one,hpk];show L'[0]?=some (.map ((accP [] (prodE (a.take k++[a[k]]) b)).map entD));rw[prodE_snoc,accP_append,g2]
   ·obtain rfl:k=a.length:=by omega
    rw[List.take_length]at q2;refine .inr ⟨_,Ex.of (n:=60) ?_,?_,L,rfl,q2⟩
    ·simp only[pmS,hlen];generalize (b.map fun p=>qC p.1 p.2)=es2 at*;generalize (a.map fun p=>qC p.1 p.2)=es1 at*;generalize a.length=n at*;simp -implicitDefEqProofs [pmO,f157]
    ·simp) (0,L) ⟨Nat.zero_le _,hL0⟩
 subst h2;exact⟨L',_,h1,rfl,h3⟩
theorem ca_pmul {S:Nat}{a b:List Ent}(ha:PV S a)(hb:PV S b)(hS:S<=1000)(hm:a.length*(b.length*(2*S+1))<=50000):Ca E1 157 [.d (polD a),.d (polD b)] (.d (polD (mulP a b)),none):=by
 have la:=ha.length;have hlen:(a.map fun p=>qC p.1 p.2).length=a.length:=by simp
 obtain⟨N,t1⟩:=(ca_pvalue ha hS).get;have hA:Ex E1 f157.body.l (st0 [.d (polD a),.d (polD b),.u,.u,.u,.u,.u,.u,.u,.u,.u,.u,.u,.u,.u,.u,.u,.u] []) (.norm,(st0 [.d (polD a),.d (polD b),.u,.u,.u,.u,.u,.u,.u,.u,.u,.u,.u,.u,.u,.u,.u,.u] [])):=by
  refine Ex.of (n:=60) ?_;generalize polD a=x1;generalize polD b=x2;simp -implicitDefEqProofs [f157]
 have hMk:Ex E1 f157.body.r.l (st0 [.d (polD a),.d (polD b),.u,.u,.u,.u,.u,.u,.u,.u,.u,.u,.u,.u,.u,.u,.u,.u] []) (.norm,(st0 [.d (polD a),.d (polD b),.u,.m (.loc 0),.u,.u,.u,.u,.u,.u,.u,.u,.u,.u,.u,.u,.u,.u] [.map []])):=by
  refine Ex.of (n:=60) ?_;generalize polD a=x1;generalize polD b=x2;simp -implicitDefEqProofs [f157]
 have hC:Ex E1 f157.body.r.r.l.l (st0 [.d (polD a),.d (polD b),.u,.m (.loc 0),.u,.u,.u,.u,.u,.u,.u,.u,.u,.u,.u,.u,.u,.u] [.map []]) (.norm,pmS (a.map fun p=>qC p.1 p.2) (b.map fun p=>qC p.1 p.2) .u .u .u 0 0 .u .u .u .u .u [.map []]):=by
  refine Ex.of (n:=N+60) ?_;unfold polD pmS at*;generalize (a.map fun p=>qC p.1 p.2)=es1 at*;generalize (b.map fun p=>qC p.1 p.2)=es2 at*;simp -implicitDefEqProofs [f157,t1]
 obtain⟨L',st',hl,rfl,hL'⟩:=po_loop a b [.map []] (by omega) hb hS rfl ha.fits ha.bd hm;have hmE:(prodE a b).length*(2*S+1)<=50000:=by
  have:=prodE_length a b;rw[<-Nat.mul_assoc]at hm;exact Nat.le_trans (Nat.mul_le_mul_right _ this) hm
 have t4:=fun m=>run_listP hL' (prodE_fits a b) (prodE_bd ha.bd hb.bd) hmE m
 have hpd:polD (canon (accP [] (prodE a b)))=polD (mulP a b):=rfl;rw[hpd]at t4;have hD:Ex E1 f157.body.r.r.r {pmS (a.map fun p=>qC p.1 p.2) (b.map fun p=>qC p.1 p.2) .u .u .u a.length 0 .u .u .u .u .u L' with vars:=(pmS (a.map fun p=>qC p.1 p.2) (b.map fun p=>qC p.1 p.2) .u .u .u a.length 0 .u .u .u .u .u L').vars.set 11 (.d (.v (.bool false)))}
   (.ret,(st0 [.u,.u,.d (polD (mulP a b)),.u,.u,.u,.u,.u,.u,.u,.u,.u,.u,.u,.u,.u,.u,.u] (L'))):=by
  refine Ex.of (n:=100) ?_;unfold polD pmS at*;clear hl hA hMk hC;generalize (a.map fun p=>qC p.1 p.2)=es at*;generalize (b.map fun p=>qC p.1 p.2)=es2 at*;generalize ((mulP a b).map fun p=>qC p.1 p.2)=es1 at*;simp -implicitDefEqProofs [f157,t4,FV.toOld,FV.toOldL]
 refine Ca.body (o:=.ret) (st1:=(st0 [.u,.u,.d (polD (mulP a b)),.u,.u,.u,.u,.u,.u,.u,.u,.u,.u,.u,.u,.u,.u,.u] (L'))) rfl (k157:E1.fn _=_) rfl ?_ (by intro id h;cases h) ?_
 ·show Ex E1 (.seq f157.body.l (.seq f157.body.r.l (.seq (.seq f157.body.r.r.l.l (.block 0 (.loop pmO))) f157.body.r.r.r))) _ _;exact hA.seq (hMk.seq ((hC.seq hl.block).seq hD))
 ·unfold polD;generalize ((mulP a b).map fun p=>qC p.1 p.2)=es1 at*;simp -implicitDefEqProofs [f157]
end Fi.S
namespace Fi.S
open Go Fi
theorem tot_mem:∀ {l:List Ent},Keys l->∀ {p:Ent},p ∈ l->tot l p.1=p.2
 | [],_,_,hp=>by cases hp
 | (a,y)::r,h,p,hp=>by
  unfold Keys at h;simp only[List.map_cons,List.nodup_cons]at h;rcases List.mem_cons.1 hp with h0|hp2
  ·subst h0;have hr:∀ x ∈ r,x.1≠a:=fun x hx he=>h.1 (he ▸ List.mem_map.2 ⟨x,hx,rfl⟩)
   simp only[tot,if_true,tot_not hr];grind
  ·have h1:¬ a=p.1:=fun he=>h.1 (he ▸ List.mem_map.2 ⟨p,hp2,rfl⟩)
   simp only[tot,if_neg h1,tot_mem h.2 hp2];grind
theorem tot_bd {S:Nat}(hS:1<=S){l:List Ent}(h:Keys l)(hb:Bd S l)(e:Ex3):qz (tot l e)<=S:=by
 cases hg:getE l e with
 | none =>
  rw[tot_not (getE_none hg)];exact Nat.le_trans qz_zero hS
 | some y =>
  have h1:=getE_mem hg;have h2:=tot_mem h h1;simp only at h2;rw[h2];exact hb _ h1
theorem canon_bd {S:Nat}{l:List Ent}(hk:Keys l)(hf:Fits l)(hb:∀ e,qz (tot l e)<=S):PV S (canon l):=by
 refine⟨canon_srt hk,canon_nz l,fun p hp=>hf p (canon_mem.1 hp).1,fun p hp => ?_⟩;have:=tot_mem (srt_keys (canon_srt hk)) hp;rw[canon_tot]at this;rw[<-this];exact hb _
theorem canon_length (l:List Ent):(canon l).length<=l.length:=by
 unfold canon;rw[List.length_mergeSort];exact List.length_filter_le _ _
theorem addP_pv2 {S T:Nat}(hS:1<=S)(hT:1<=T){a b:List Ent}(ha:PV S a)(hb:PV T b):PV (S+T+1) (addP a b):=by
 refine canon_bd (acc_keys keys_nil) (acc_fits (fun p hp=>by cases hp) ?_) fun e => ?_
 ·intro p hp;rcases List.mem_append.1 hp with hp|hp
  ·exact ha.fits p hp
  ·exact hb.fits p hp
 ·have h1:tot (accP [] (a++b)) e=tot a e+tot b e:=by
   rw[acc_tot keys_nil,tot_append];simp only[tot];grind
  rw[h1];have h2:=qz_add (tot a e) (tot b e);have h3:=tot_bd hS (srt_keys ha.srt) ha.bd e;have h4:=tot_bd hT (srt_keys hb.srt) hb.bd e;omega
theorem addP_length (a b:List Ent):(addP a b).length<=a.length+b.length:=by
 have h1:=canon_length (accP [] (a++b));have h2:=acc_length (ms:=a++b) (l:=[]);rw[List.length_append]at h2;show(canon (accP [] (a++b))).length<=_;simp only[List.length_nil]at h2;omega
theorem mulP_length (a b:List Ent):(mulP a b).length<=a.length*b.length:=by
 have h1:=canon_length (accP [] (prodE a b));have h2:=acc_length (ms:=prodE a b) (l:=[]);have h3:=prodE_length a b;show(canon (accP [] (prodE a b))).length<=_;simp only[List.length_nil]at h2;omega
theorem prodP_keys {p:Ent}{b:List Ent}(hb:Keys b):Keys (prodP p b):=by
 have h1:Keys (b.map fun q=>(addE p.1 q.1,p.2*q.2)):=by
  unfold Keys at*;rw[List.nodup_iff_pairwise_ne,List.pairwise_map]at hb;rw[List.map_map,List.nodup_iff_pairwise_ne,List.pairwise_map];refine hb.imp ?_;intro x y hne he;apply hne;simp only[Function.comp,addE,Prod.mk.injEq]at he;obtain⟨⟨a,b,c⟩,_⟩:=x;obtain⟨⟨a',b',c'⟩,_⟩:=y;simp only at he;simp only[Prod.mk.injEq];omega
 unfold Keys prodP at*;exact List.Nodup.sublist (List.filter_sublist.map _) h1
theorem prodE_tot_bd {S T:Nat}(hS:1<=S){b:List Ent}(hb:PV T b)(e:Ex3):∀ {a:List Ent},Bd S a->qz (tot (prodE a b) e)<=a.length*(S+T+1)+1
 | [],_=>by
  have:=qz_zero;simp only[prodE,List.flatMap_nil,tot,List.length_nil];omega
 | p::a,ha=>by
  have h1:prodE (p::a) b=prodP p b++prodE a b:=by simp[prodE]
  rw[h1,tot_append];have h2:=qz_add (tot (prodP p b) e) (tot (prodE a b) e);have h3:=prodE_tot_bd hS hb e (a:=a) (fun x hx=>ha x (List.mem_cons_of_mem _ hx));have h4:Bd (S+T) (prodP p b):=by
   intro x hx;obtain⟨hx,_⟩:=List.mem_filter.1 hx;obtain⟨q,hq,rfl⟩:=List.mem_map.1 hx;have g1:=qz_mul p.2 q.2;have g2:=hb.bd q hq;have g3:=ha p (List.mem_cons_self ..);show qz (p.2*q.2)<=_;omega
  have h5:=tot_bd (by omega) (prodP_keys (srt_keys hb.srt)) h4 e;rw[List.length_cons,Nat.add_mul];omega
theorem mulP_tot (a b:List Ent)(e:Ex3):tot (mulP a b) e=tot (prodE a b) e:=by
 unfold mulP;rw[canon_tot,acc_tot keys_nil];simp only[tot];grind
theorem mulP_pv {S T:Nat}(hS:1<=S){a b:List Ent}(ha:PV S a)(hb:PV T b):PV (a.length*(S+T+1)+1) (mulP a b):=by
 refine canon_bd (acc_keys keys_nil) (acc_fits (fun p hp=>by cases hp) (prodE_fits a b)) fun e => ?_
 have h1:tot (accP [] (prodE a b)) e=tot (prodE a b) e:=by
  rw[acc_tot keys_nil];simp only[tot];grind
 rw[h1];exact prodE_tot_bd hS hb e ha.bd
end Fi.S
