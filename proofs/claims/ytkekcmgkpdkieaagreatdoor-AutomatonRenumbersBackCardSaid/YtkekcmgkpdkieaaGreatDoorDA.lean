import Derived.Test.YtkekcmgkpdkieaaGreatDoorCZ
set_option linter.unusedVariables false
set_option linter.unusedSimpArgs false
noncomputable section
namespace Fi.S
open Go Fi
section
structure Ha {α:Type}(P:α->Prop)(pl tm:α->α->α)(z o:α):Prop where
 pz:P z
 po:P o
 pp:∀ {x y},P x->P y->P (pl x y)
 pt:∀ {x y},P x->P y->P (tm x y)
 comm:∀ {x y},P x->P y->pl x y=pl y x
 assoc:∀ {x y w},P x->P y->P w->pl (pl x y) w=pl x (pl y w)
 zero:∀ {x},P x->pl x z=x
 J_:∀ {x y},P x->P y->tm x y=tm y x
 adj:∀ {x y w},P x->P y->P w->tm (tm x y) w=tm x (tm y w)
 aiX:∀ {x},P x->tm x o=x
 aaY:∀ {x},P x->tm x z=z
 aga:∀ {x y w},P x->P y->P w->tm x (pl y w)=pl (tm x y) (tm x w)
section
variable {α:Type} {P:α->Prop} {pl tm:α->α->α} {z o:α}
theorem Ha.zl (A:Ha P pl tm z o){x:α}(h:P x):pl z x=x:=by rw[A.comm A.pz h,A.zero h]
theorem Ha.zt (A:Ha P pl tm z o){x:α}(h:P x):tm z x=z:=by rw[A.J_ A.pz h,A.aaY h]
theorem Ha.agb (A:Ha P pl tm z o){x y w:α}(hx:P x)(hy:P y)(hw:P w):tm (pl x y) w=pl (tm x w) (tm y w):=by
 rw[A.J_ (A.pp hx hy) hw,A.aga hw hx hy,A.J_ hw hx,A.J_ hw hy]
def sm (pl:α->α->α)(z:α)(l:List α):α:=l.foldl pl z
variable (A:Ha P pl tm z o)
include A
theorem xG:∀ {l:List α} {x:α},(∀ y ∈ l,P y)->P x->P (l.foldl pl x)/\l.foldl pl x=pl x (sm pl z l)
 | [],x,_,hx=>⟨hx,(A.zero hx).symm⟩
 | y::l,x,h,hx=>by
  have hy:=h y (by simp);have hl:∀ y ∈ l,P y:=fun y hy=>h y (by simp[hy])
  obtain⟨h1,h2⟩:=xG hl (A.pp hx hy);obtain⟨h3,h4⟩:=xG hl hy;have h5:P (sm pl z l):=(xG hl A.pz).1;refine⟨h1,?_⟩;rw[Qm0,h2];show _=pl x ((y::l).foldl pl z);rw[Qm0,A.zl hy,h4,A.assoc hx hy h5]
theorem Hd {l:List α}(h:∀ y ∈ l,P y):P (sm pl z l):=(xG A h A.pz).1
theorem gz {x:α}{l:List α}(hx:P x)(h:∀ y ∈ l,P y):sm pl z (x::l)=pl x (sm pl z l):=by
 show(x::l).foldl pl z=_;rw[Qm0,A.zl hx,(xG A h hx).2]
theorem ZH {l m:List α}(hp:l.Perm m):(∀ y ∈ l,P y)->sm pl z l=sm pl z m:=by
 induction hp with
 | nil=>intro _;rfl
 | @cons x l m hp ih =>
  intro h;have hl:∀ y ∈ l,P y:=fun y hy=>h y (by simp[hy])
  rw[gz A (h x (by simp)) hl,gz A (h x (by simp)) (fun y hy=>hl y (hp.mem_iff.2 hy)),ih hl]
 | swap x y l =>
  intro h;have hx:=h x (by simp);have hy:=h y (by simp);have hl:∀ y ∈ l,P y:=fun y hy=>h y (by simp[hy])
  have hs:=Hd A hl;have hxl:∀ w ∈ x::l,P w:=fun w hw=>by
   rcases Qi1.1 hw with rfl|hw
   ·exact hx
   ·exact hl w hw
  have hyl:∀ w ∈ y::l,P w:=fun w hw=>by
   rcases Qi1.1 hw with rfl|hw
   ·exact hy
   ·exact hl w hw
  rw[gz A hy hxl,gz A hx hl,gz A hx hyl,gz A hy hl,<-A.assoc hy hx hs,<-A.assoc hx hy hs,A.comm hy hx]
 | @trans l m n h1 h2 ih1 ih2 =>
  intro h;rw[ih1 h,ih2 (fun y hy=>h y (h1.mem_iff.2 hy))]
abbrev PA (P:α->Prop)(l:List (Ar α)):Prop:=∀ a ∈ l,P a.x
theorem Dp {x:Ar α}(hx:P x.x):∀ {l:List (Ar α)},PA P l->PA P (bQ pl x l):=by
 intro l h;exact pQ pl x (fun y=>P y.x) (fun y=>P y.x) hx (fun y hy=>hy) (fun y hy=>A.pp hy hx) l h
structure Add (P:α->Prop)(pl:α->α->α)(h:Ar α->α):Prop where
 p:∀ a,P a.x->P (h a)
 a:∀ a b,jw a b->P a.x->P b.x->h (lK pl a b)=pl (h a) (h b)
theorem Dq {h:Ar α->α}(H:Add P pl h){x:Ar α}(hx:P x.x):∀ {l:List (Ar α)},PA P l->sm pl z ((bQ pl x l).map h)=pl (sm pl z (l.map h)) (h x)
 | [],_=>by
  show pl z (h x)=pl z (h x);rfl
 | y::l,hl=>by
  have hy:=hl y (by simp);have hl':PA P l:=fun a ha=>hl a (by simp[ha])
  have py:=H.p y hy;have px:=H.p x hx;have hm:∀ {m:List (Ar α)},PA P m->∀ w ∈ m.map h,P w:=fun hm w hw=>by
   obtain⟨a,ha,rfl⟩:=Qg2.1 hw;exact H.p a (hm a ha)
  have ps:=Hd A (hm hl');unfold bQ;split
  ·rw[Qd2,Qd2,gz A py (hm (Dp A hx hl')),Dq H hx hl',gz A py (hm hl'),A.assoc py ps px]
  ·split
   ·rename_i he;rw[Qd2,Qd2,gz A (H.p _ (A.pp hy hx)) (hm hl'),H.a y x he hy hx,gz A py (hm hl'),A.assoc py px ps,A.comm px ps,A.assoc py ps px]
   ·rw[Qd2,gz A px (hm hl),A.comm px (Hd A (hm hl))]
theorem zV {h:Ar α->α}(H:Add P pl h):∀ {l p:List (Ar α)},PA P l->PA P p->PA P (l.foldl (fun p x=>bQ pl x p) p)/\sm pl z ((l.foldl (fun p x=>bQ pl x p) p).map h)=pl (sm pl z (p.map h)) (sm pl z (l.map h))
 | [],p,_,hp=>⟨hp,by
   have:P (sm pl z (p.map h)):=Hd A (fun w hw=>by
    obtain⟨a,ha,rfl⟩:=Qg2.1 hw;exact H.p a (hp a ha))
   exact(A.zero this).symm⟩
 | x::l,p,hl,hp=>by
  have hx:=hl x (by simp);have hl':PA P l:=fun a ha=>hl a (by simp[ha])
  have hm:∀ {m:List (Ar α)},PA P m->∀ w ∈ m.map h,P w:=fun hm w hw=>by
   obtain⟨a,ha,rfl⟩:=Qg2.1 hw;exact H.p a (hm a ha)
  obtain⟨h1,h2⟩:=zV H hl' (Dp A hx hp);rw[Qm0];refine⟨h1,?_⟩;rw[h2,Dq A H hx hp,Qd2,gz A (H.p x hx) (hm hl'),A.assoc (Hd A (hm hp)) (H.p x hx) (Hd A (hm hl'))]
theorem rZ {h:Ar α->α}(H:Add P pl h){l:List (Ar α)}(hl:PA P l):sm pl z ((eQ pl l).map h)=sm pl z (l.map h):=by
 have:=(zV A H (p:=[]) hl (fun a ha=>by cases ha)).2;unfold eQ;rw[this];exact A.zl (Hd A (fun w hw=>by
  obtain⟨a,ha,rfl⟩:=Qg2.1 hw;exact H.p a (hl a ha)))
theorem uo {l:List (Ar α)}(hl:PA P l):PA P (eQ pl l):=by
 have:∀ (l p:List (Ar α)),PA P l->PA P p->PA P (l.foldl (fun p x=>bQ pl x p) p):=by
  intro l
  induction l with
  | nil=>intro p _ hp;exact hp
  | cons x l ih=>intro p hl hp;exact ih _ (fun a ha=>hl a (by simp[ha])) (Dp A (hl x (by simp)) hp)
 exact this l [] hl (fun a ha=>by cases ha)
theorem OW {β:Type}{h:β->α}{q:β->Bool}:∀ {l:List β},(∀ a ∈ l,P (h a))->(∀ a ∈ l,q a=false->h a=z)->sm pl z ((l.filter q).map h)=sm pl z (l.map h)
 | [],_,_=>rfl
 | a::l,hp,hq=>by
  have ih:=OW (l:=l) (fun b hb=>hp b (by simp[hb])) (fun b hb=>hq b (by simp[hb]));have hm:∀ w ∈ l.map h,P w:=fun w hw=>by
   obtain⟨b,hb,rfl⟩:=Qg2.1 hw;exact hp b (by simp[hb])
  have hmf:∀ w ∈ (l.filter q).map h,P w:=fun w hw=>by
   obtain⟨b,hb,rfl⟩:=Qg2.1 hw;exact hp b (by simp[(Qz1.1 hb).1])
  rw[Qd2,gz A (hp a (by simp)) hm];cases hqa:q a with
  | true=>rw[Xg0 hqa,Qd2,gz A (hp a (by simp)) hmf,ih]
  | false=>rw[Xf2 (by simp[hqa]),ih,hq a (by simp) hqa,A.zl (Hd A hm)]
theorem FB {h:Ar α->α}(H:Add P pl h){fo:α->Bool}(hz:∀ a,P a.x->fo a.x=true->h a=z){l:List (Ar α)}(hl:PA P l):sm pl z ((fD pl fo l).map h)=sm pl z (l.map h):=by
 have hr:=uo A hl;rw[<-rZ A H hl];exact OW A (fun a ha=>H.p a (hr a ha)) (fun a ha hq=>hz a (hr a ha) (by simpa using hq))
omit A
abbrev He (l:List (Ar α)):Prop:=l.Pairwise ky
theorem Dr {x:Ar α}{l:List (Ar α)}{y:Ar α}(h:y ∈ bQ pl x l):jw y x\/∃ a ∈ l,jw a y:=by
 have:=pQ pl x (fun a=>a ∈ l) (fun y=>jw y x\/∃ a ∈ l,jw a y) (.inl ⟨rfl,rfl,rfl⟩) (fun y hy=>.inr ⟨y,hy,rfl,rfl,rfl⟩) (fun y hy=>.inr ⟨y,hy,rfl,rfl,rfl⟩) l (fun y hy=>hy);exact this y h
theorem Dt (x:Ar α):∀ {l:List (Ar α)},He l->He (bQ pl x l)
 | [],_=>by simp[bQ]
 | y::l,h=>by
  obtain⟨h1,h2⟩:=Qk1.1 h;unfold bQ;split
  ·rename_i hl;refine Qk1.2 ⟨fun c hc => ?_,Dt x h2⟩;rcases Dr hc with hc|⟨a,ha,he⟩
   ·unfold ky jw at*;omega
   ·have:=h1 a ha;unfold ky jw at*;omega
  ·split
   ·exact Qk1.2 ⟨fun c hc=>h1 c hc,h2⟩
   ·rename_i hl he;have hxy:ky x y:=by
     rcases jN y x with g|g|g
     ·exact absurd g hl
     ·exact absurd g he
     ·exact g
    refine Qk1.2 ⟨fun c hc => ?_,h⟩;rcases Qi1.1 hc with rfl|hc
    ·exact hxy
    ·exact QJ hxy (h1 c hc)
theorem zW (l:List (Ar α)):He (eQ pl l):=by
 have:∀ (l p:List (Ar α)),He p->He (l.foldl (fun p x=>bQ pl x p) p):=by
  intro l
  induction l with
  | nil=>intro p hp;exact hp
  | cons x l ih=>intro p hp;exact ih _ (Dt x hp)
 exact this l [] List.Pairwise.nil
theorem Du {x:Ar α}:∀ {l:List (Ar α)},∃ y ∈ bQ pl x l,jw y x
 | []=>⟨x,by simp[bQ],rfl,rfl,rfl⟩
 | a::l=>by
  unfold bQ;split
  ·obtain⟨y,h1,h2⟩:=Du (l:=l);exact⟨y,by simp[h1],h2⟩
  ·split
   ·rename_i he;exact⟨lK pl a x,Qj1 ..,he⟩
   ·exact⟨x,by simp,rfl,rfl,rfl⟩
theorem zX {x a:Ar α}:∀ {l:List (Ar α)},a ∈ l->∃ y ∈ bQ pl x l,jw y a
 | b::l,h=>by
  unfold bQ;split
  ·rcases Qi1.1 h with rfl|h
   ·exact⟨a,by simp,rfl,rfl,rfl⟩
   ·obtain⟨y,h1,h2⟩:=zX (x:=x) h;exact⟨y,by simp[h1],h2⟩
  ·split
   ·rcases Qi1.1 h with rfl|h
    ·exact⟨lK pl a x,Qj1 ..,rfl,rfl,rfl⟩
    ·exact⟨a,Qh0 _ h,rfl,rfl,rfl⟩
   ·exact⟨a,Qh0 _ h,rfl,rfl,rfl⟩
theorem jO {l:List (Ar α)}(c:Ar α):(∃ y ∈ eQ pl l,jw y c)↔∃ a ∈ l,jw a c:=by
 have key:∀ (l p:List (Ar α)),(∃ y ∈ l.foldl (fun p x=>bQ pl x p) p,jw y c)↔(∃ a ∈ p,jw a c)\/∃ a ∈ l,jw a c:=by
  intro l
  induction l with
  | nil=>intro p;simp
  | cons x l ih =>
   intro p;rw[Qm0,ih];constructor
   ·rintro(⟨y,h1,h2⟩|⟨y,h1,h2⟩)
    ·rcases Dr h1 with h|⟨a,h3,h4⟩
     ·exact .inr ⟨x,by simp,by unfold jw at*;omega⟩
     ·exact .inl ⟨a,h3,by unfold jw at*;omega⟩
    ·exact .inr ⟨y,by simp[h1],h2⟩
   ·rintro(⟨y,h1,h2⟩|⟨y,h1,h2⟩)
    ·obtain⟨w,h3,h4⟩:=zX (pl:=pl) (x:=x) h1;exact .inl ⟨w,h3,by unfold jw at*;omega⟩
    ·rcases Qi1.1 h1 with rfl|h1
     ·obtain⟨w,h3,h4⟩:=Du (pl:=pl) (x:=y) (l:=p);exact .inl ⟨w,h3,by unfold jw at*;omega⟩
     ·exact .inr ⟨y,h1,h2⟩
 rw[show eQ pl l=l.foldl (fun p x=>bQ pl x p) [] from rfl,key];simp
def hAt (z:α)(c a:Ar α):α:=if jw a c then a.x else z
theorem A9 (A:Ha P pl tm z o)(c:Ar α):Add P pl (hAt z c):=by
 refine⟨fun a ha => ?_,fun a b he ha hb => ?_⟩
 ·unfold hAt;split
  ·exact ha
  ·exact A.pz
 ·unfold hAt
  by_cases h:jw a c
  ·have h2:jw b c:=by unfold jw at*;omega
   rw[if_pos (GU.2 h),if_pos h,if_pos h2];rfl
  ·have h2:¬ jw b c:=by unfold jw at*;omega
   rw[if_neg (fun g=>h (GU.1 g)),if_neg h,if_neg h2,A.zero A.pz]
theorem Hf (A:Ha P pl tm z o){c:Ar α}:∀ {l:List (Ar α)},PA P l->He l->c ∈ l->sm pl z (l.map (hAt z c))=c.x
 | a::l,hl,hs,hc=>by
  obtain⟨h1,h2⟩:=Qk1.1 hs;have hl':PA P l:=fun b hb=>hl b (by simp[hb])
  have H:=A9 A c;have hm:∀ w ∈ l.map (hAt z c),P w:=fun w hw=>by
   obtain⟨b,hb,rfl⟩:=Qg2.1 hw;exact H.p b (hl' b hb)
  rw[Qd2,gz A (H.p a (hl a (by simp))) hm];rcases Qi1.1 hc with rfl|hc
  ·have hn:sm pl z (l.map (hAt z c))=z:=by
    have:∀ (m:List (Ar α)),(∀ b ∈ m,ky c b)->sm pl z (m.map (hAt z c))=z:=by
     intro m
     induction m with
     | nil=>intro _;rfl
     | cons b m ih =>
      intro h;have e1:hAt z c b=z:=if_neg (fun g=>JR (h b (by simp)) g);have e2:=ih (fun b hb=>h b (by simp[hb]));show(List.map (hAt z c) (b::m)).foldl pl z=z;rw[Qd2,e1,Qm0,A.zero A.pz];exact e2
    exact this l h1
   rw[hn,show hAt z c c=c.x from if_pos ⟨rfl,rfl,rfl⟩,A.zero (hl c (by simp))]
  ·rw[show hAt z c a=z from if_neg (xm (h1 c hc)),Hf A hl' h2 hc,A.zl (hl c (by simp[hc]))]
theorem Dv:∀ {l m:List (Ar α)},He l->He m->(∀ a,a ∈ l↔a ∈ m)->l=m
 | [],[],_,_,_=>rfl
 | [],b::m,_,_,h=>by have:=(h b).2 (by simp);cases this
 | a::l,[],_,_,h=>by have:=(h a).1 (by simp);cases this
 | a::l,b::m,hl,hm,h=>by
  obtain⟨h1,h2⟩:=Qk1.1 hl;obtain⟨k1,k2⟩:=Qk1.1 hm;have hab:a=b:=by
   rcases Qi1.1 ((h a).1 (by simp)) with g|g
   ·exact g
   ·rcases Qi1.1 ((h b).2 (by simp)) with g2|g2
    ·exact g2.symm
    ·exact absurd (h1 b g2) (oz (k1 a g))
  subst hab;have irr:∀ {c:Ar α},¬ ky c c:=fun g=>oz g g
  rw[Dv h2 k2 (fun c=>⟨fun hc=>by
   rcases Qi1.1 ((h c).1 (by simp[hc])) with rfl|g
   ·exact absurd (h1 c hc) irr
   ·exact g,fun hc=>by
   rcases Qi1.1 ((h c).2 (by simp[hc])) with rfl|g
   ·exact absurd (k1 c hc) irr
   ·exact g⟩)]
theorem r9 (A:Ha P pl tm z o){l:List (Ar α)}(hl:PA P l)(c:Ar α):c ∈ eQ pl l↔(∃ a ∈ l,jw a c)/\c.x=sm pl z (l.map (hAt z c)):=by
 have hr:=uo A hl;have hs:=zW (pl:=pl) l;constructor
 ·intro hc;refine⟨(jO c).1 ⟨c,hc,rfl,rfl,rfl⟩,?_⟩;rw[<-rZ A (A9 A c) hl,Hf A hr hs hc]
 ·rintro⟨h1,h2⟩;obtain⟨y,h3,h4⟩:=(jO (pl:=pl) c).2 h1;have h5:y.x=sm pl z (l.map (hAt z y)):=by rw[<-rZ A (A9 A y) hl,Hf A hr hs h3]
  have h6:hAt z y=hAt z c:=by
   funext a
   unfold hAt;have:jw a y↔jw a c:=by unfold jw at*;omega
   simp[this]
  rw[h6,<-h2]at h5;have:y=c:=by
   obtain⟨f,l',t,x⟩:=y;obtain⟨f2,l2,t2,x2⟩:=c;obtain⟨g1,g2,g3⟩:=h4;simp only at g1 g2 g3 h5;subst g1 g2 g3 h5;rfl
  rw[<-this];exact h3
theorem FC (fo:α->Bool)(l:List (Ar α)):He (fD pl fo l):=(zW l).sublist List.filter_sublist
def dM (pl tm:α->α->α)(z:α)(fin:List α)(ak:List (Ar α)):List Int->Int->α
 | [],s=>fin.getD s.toNat z
 | x::r,s=>ak.foldl (fun acc a=>if a.f=s/\a.l=x then pl acc (tm a.x (dM pl tm z fin ak r a.t)) else acc) z
def hFr (tm:α->α->α)(z:α)(s x:Int)(F:Int->α)(a:Ar α):α:=if a.f=s/\a.l=x then tm a.x (F a.t) else z
theorem r_ (A:Ha P pl tm z o)(s x:Int)(F:Int->α)(hF:∀ t,P (F t)):∀ (l:List (Ar α)) (acc:α),PA P l->P acc->l.foldl (fun acc a=>if a.f=s/\a.l=x then pl acc (tm a.x (F a.t)) else acc) acc=(l.map (hFr tm z s x F)).foldl pl acc
 | [],_,_,_=>rfl
 | a::l,acc,hl,ha=>by
  have hl':PA P l:=fun b hb=>hl b (by simp[hb])
  rw[Qm0,Qd2,Qm0];unfold hFr
  by_cases h:a.f=s/\a.l=x
  ·rw[if_pos h,if_pos h];exact r_ A s x F hF l _ hl' (A.pp ha (A.pt (hl a (by simp)) (hF _)))
  ·rw[if_neg h,if_neg h,A.zero ha];exact r_ A s x F hF l _ hl' ha
theorem OX (A:Ha P pl tm z o)(s x:Int)(F:Int->α)(hF:∀ t,P (F t)):Add P pl (hFr tm z s x F):=by
 refine⟨fun a ha => ?_,fun a b he ha hb => ?_⟩
 ·unfold hFr;split
  ·exact A.pt ha (hF _)
  ·exact A.pz
 ·obtain⟨e1,e2,e3⟩:=he;unfold hFr lK;simp only
  by_cases h:a.f=s/\a.l=x
  ·have h2:b.f=s/\b.l=x:=by rw[<-e1,<-e2];exact h
   rw[if_pos h,if_pos h,if_pos h2,<-e3,A.agb ha hb (hF _)]
  ·have h2:¬ (b.f=s/\b.l=x):=by rw[<-e1,<-e2];exact h
   rw[if_neg h,if_neg h,if_neg h2,A.zero A.pz]
theorem Hg (A:Ha P pl tm z o){fin:List α}{ak:List (Ar α)}(hf:∀ x ∈ fin,P x)(hl:PA P ak):∀ (w:List Int) (s:Int),P (dM pl tm z fin ak w s)
 | [],s=>by
  show P (fin.getD s.toNat z);rw[Qh1];cases h:fin[s.toNat]? with
  | none=>exact A.pz
  | some x=>exact hf x (Qa2 h)
 | x::r,s=>by
  have ih:=Hg A hf hl r;show P (ak.foldl _ z);rw[r_ A s x _ ih ak z hl A.pz];exact Hd A (fun w hw=>by
   obtain⟨b,hb,rfl⟩:=Qg2.1 hw;exact(OX A s x _ ih).p b (hl b hb))
theorem zY (A:Ha P pl tm z o){fo:α->Bool}(hz:∀ x,P x->fo x=true->x=z){fin:List α}{ak:List (Ar α)}(hf:∀ x ∈ fin,P x)(hl:PA P ak):∀ (w:List Int) (s:Int),dM pl tm z fin (fD pl fo ak) w s=dM pl tm z fin ak w s
 | [],s=>rfl
 | x::r,s=>by
  have ih:=zY A hz hf hl r;have hP:=Hg A hf hl r;have hln:PA P (fD pl fo ak):=fun a ha=>uo A hl a (Qz1.1 ha).1
  show(fD pl fo ak).foldl _ z=ak.foldl _ z;rw[show dM pl tm z fin (fD pl fo ak) r=dM pl tm z fin ak r from funext ih,r_ A s x _ hP _ z hln A.pz,r_ A s x _ hP _ z hl A.pz];refine FB A (OX A s x _ hP) (fun a ha hi => ?_) hl;unfold hFr;rw[hz _ ha hi];split
  ·exact A.zt (hP _)
  ·rfl
def su (pl tm:α->α->α)(z:α)(aM fin:List α)(ak:List (Ar α))(w:List Int):α :=
 (List.range aM.length).foldl (fun acc i=>pl acc (tm (aM.getD i z) (dM pl tm z fin ak w i))) z
theorem Hl (A:Ha P pl tm z o){fo:α->Bool}(hz:∀ x,P x->fo x=true->x=z){aM fin:List α}{ak:List (Ar α)}(hf:∀ x ∈ fin,P x)(hl:PA P ak)(w:List Int) :
  su pl tm z aM fin (fD pl fo ak) w=su pl tm z aM fin ak w:=by
 unfold su;rw[show dM pl tm z fin (fD pl fo ak) w=dM pl tm z fin ak w from funext (zY A hz hf hl w)]
end
end
def Fr (D N:Nat)(x:Rat):Prop:=∃ n:Int,x*(D:Rat)=(n:Rat)/\n.natAbs<=N
theorem Fr.mono {D N M:Nat}{x:Rat}(h:Fr D N x)(hN:N<=M):Fr D M x:=by
 obtain⟨n,h1,h2⟩:=h;exact⟨n,h1,by omega⟩
theorem Fr.zero (D N:Nat):Fr D N 0:=⟨0,by simp[Rat.zero_mul],by simp⟩
theorem Fr.add {D N M:Nat}{x y:Rat}(h:Fr D N x)(k:Fr D M y):Fr D (N+M) (x+y):=by
 obtain⟨n,h1,h2⟩:=h;obtain⟨m,k1,k2⟩:=k;refine⟨n+m,?_,by omega⟩;rw[Rat.add_mul,h1,k1,Rat.intCast_add]
theorem Fr.mul {D E N M:Nat}{x y:Rat}(h:Fr D N x)(k:Fr E M y):Fr (D*E) (N*M) (x*y):=by
 obtain⟨n,h1,h2⟩:=h;obtain⟨m,k1,k2⟩:=k;refine⟨n*m,?_,?_⟩
 ·rw[Rat.natCast_mul,Rat.intCast_mul,<-h1,<-k1];grind
 ·rw[Int.natAbs_mul];exact Q72 h2 k2
theorem OY (x:Rat):x*(x.den:Rat)=(x.num:Rat):=by
 have h:=Rat.num_divInt_den x;rw[Rat.divInt_eq_div]at h;have h0:((x.den:Int):Rat)≠0:=by
  intro h1;have h2:((x.den:Int):Rat)=((0:Int):Rat):=h1;have:=Rat.intCast_inj.1 h2;have:=x.den_nz;omega
 have h3:((x.num:Rat) / ((x.den:Int):Rat))*((x.den:Int):Rat)=(x.num:Rat):=Rat.div_mul_cancel h0;rw[h]at h3;exact h3
theorem Fr.of (x:Rat):Fr x.den x.num.natAbs x:=⟨x.num,OY x,Qd1 _⟩
theorem Fr.parts {D N:Nat}(hD:0<D){x:Rat}(h:Fr D N x):x.num.natAbs<=N/\x.den<=D:=by
 obtain⟨n,h1,h2⟩:=h;have hx:x.num*(D:Int)=n*(x.den:Int):=by
  have h3:(x.num:Rat)*(D:Rat)=(n:Rat)*(x.den:Rat):=by
   rw[<-h1,<-OY x];grind
  have h4:((x.num*(D:Int):Int):Rat)=((n*(x.den:Int):Int):Rat):=by
   rw[Rat.intCast_mul,Rat.intCast_mul,Rat.intCast_natCast,Rat.intCast_natCast];exact h3
  exact Rat.intCast_inj.1 h4
 have ha:x.num.natAbs*D=n.natAbs*x.den:=by
  have:=congrArg Int.natAbs hx;simpa[Int.natAbs_mul] using this
 have hc:Nat.Coprime x.den x.num.natAbs:=Nat.Coprime.symm x.reduced;have hd:x.den ∣ D:=hc.dvd_of_dvd_mul_left ⟨n.natAbs,by rw[ha,Qj2]⟩;obtain⟨c,rfl⟩:=hd;have hden:0<x.den:=Nat.pos_of_ne_zero x.den_nz;have hc0:0<c:=Nat.pos_of_mul_pos_left hD;have hn:x.num.natAbs*c=n.natAbs:=by
  refine Nat.eq_of_mul_eq_mul_right hden ?_;rw[<-ha,Q61,Qj2 c]
 refine⟨?_,Xl1 _ hc0⟩;have:=Xl1 x.num.natAbs hc0;omega
theorem Fr.qz {D N k:Nat}(hD:0<D){x:Rat}(h:Fr D N x)(hN:N<4294967296 ^ k)(hDk:D<4294967296 ^ k):qz x<=k:=by
 obtain⟨h1,h2⟩:=h.parts hD;exact Nat.max_le.2 ⟨uL (Xb1 h1 hN),uL (Xb1 h2 hDk)⟩
theorem V5 {D N E M:Nat}{f:fM->Rat}(hf:∀ e,Fr E M (f e))(e:fM):∀ {a:List aZ},(∀ p ∈ a,Fr D N p.2)->Fr (D*E) (a.length*(N*M)) (cv a f e)
 | [],_=>Fr.zero _ _
 | (d,y)::a,h=>by
  have h1:=(h (d,y) (Qj1 ..)).mul (hf (e.1-d.1,e.2.1-d.2.1,e.2.2-d.2.2));have h2:=V5 hf e (a:=a) (fun p hp=>h p (Qh0 _ hp));refine(h1.add h2).mono ?_;rw[Qe2,Qq1];omega
end Fi.S
noncomputable section
namespace Fi.S
open Go Fi
set_option maxHeartbeats 8000000
def vM (ks:List Int)(xs:List Sv):Prop:=∃ S M,1<=S/\1<=M/\gU S M ks xs
theorem vM.two {ks:List Int}{x y:List Sv}:vM ks x->vM ks y->∃ S M,1<=S/\1<=M/\gU S M ks x/\gU S M ks y:=by
 rintro⟨S,M,h1,h2,h3⟩ ⟨T,N,k1,k2,k3⟩;exact⟨S+T,M+N,by omega,by omega,h3.mono omK omK,k3.mono omK omK⟩
theorem vM.three {ks:List Int}{x y w:List Sv}(hx:vM ks x)(hy:vM ks y):vM ks w->∃ S M,1<=S/\1<=M/\gU S M ks x/\gU S M ks y/\gU S M ks w:=by
 rintro⟨T,N,k1,k2,k3⟩;obtain⟨S,M,h1,h2,h3,h4⟩:=hx.two hy;exact⟨S+T,M+N,by omega,by omega,h3.mono omK omK,h4.mono omK omK,k3.mono omK omK⟩
theorem Ka {ks:List Int}(hs:∀ k ∈ ks,single k=true):Ha (vM ks) (bL ks) bu (ks.map dF) (ks.map oq) where
 pz:=⟨1,1,by omega,by omega,kr omK hs⟩
 po:=⟨1,1,by omega,by omega,JI omK omK hs⟩
 pp h k:=by
  obtain⟨S,M,h1,h2,h3,h4⟩:=h.two k;exact⟨_,_,by omega,by omega,C_ h1 h1 hs h3 h4⟩
 pt h k:=by
  obtain⟨S,M,h1,h2,h3,h4⟩:=h.two k;exact⟨_,_,by omega,Xd0 h2 h2,ML h1 h2 hs h3 h4⟩
 comm h k:=by
  obtain⟨S,M,h1,h2,h3,h4⟩:=h.two k;exact MM h1 hs h3 h4
 assoc h k l:=by
  obtain⟨S,M,h1,h2,h3,h4,h5⟩:=h.three k l;exact JF h1 hs h3 h4 h5
 zero h:=by
  obtain⟨S,M,h1,h2,h3⟩:=h;exact Cz h1 hs h3
 J_ h k:=by
  obtain⟨S,M,h1,h2,h3,h4⟩:=h.two k;exact JE h1 hs h3 h4
 adj h k l:=by
  obtain⟨S,M,h1,h2,h3,h4,h5⟩:=h.three k l;exact GM h1 hs h3 h4 h5
 aiX h:=by
  obtain⟨S,M,h1,h2,h3⟩:=h;exact MN h1 hs h3
 aaY h:=by
  obtain⟨S,M,h1,h2,h3⟩:=h;exact JH hs h3
 aga h k l:=by
  obtain⟨S,M,h1,h2,h3,h4,h5⟩:=h.three k l;exact JG h1 hs h3 h4 h5
def Na (D N:Nat):Sv->Prop
 | .q a=>Fr D N a
 | .p l=>∀ e,Fr D N (tot l e)
 | _=>True
def uG (D N:Nat)(xs:List Sv):Prop:=∀ x ∈ xs,Na D N x
theorem Na.mono {D N M:Nat}{x:Sv}(h:Na D N x)(hN:N<=M):Na D M x:=by
 cases x with
 | q a=>exact Fr.mono h hN
 | p l=>exact fun e=>(h e).mono hN
 | c i n=>trivial
 | s u=>trivial
theorem uG.mono {D N M:Nat}{x:List Sv}(h:uG D N x)(hN:N<=M):uG D M x:=fun y hy=>(h y hy).mono hN
theorem V6 {k:Int}(hk:single k=true)(D N:Nat):Na D N (dF k):=by
 rcases aO hk with rfl|rfl|rfl|rfl|rfl
 ·exact Fr.zero D N
 ·trivial
 ·exact Fr.zero D N
 ·trivial
 ·exact fun e=>Fr.zero D N
theorem Hm {D N:Nat}(h:D<=N):Fr D N 1:=⟨D,by rw[Rat.one_mul];rfl,by omega⟩
theorem yZ (x:Rat)(e:fM):tot (bX x) e=if e=(0,0,0) then x else 0:=by
 unfold bX
 by_cases h:x=0
 ·rw[if_pos h];subst h;simp[tot]
 ·rw[if_neg h]
  by_cases he:e=(0,0,0)
  ·subst he;simp[tot,Rat.add_zero]
  ·have he':¬ (((0:Int),(0:Int),(0:Int))=e):=fun g=>he g.symm
   simp[tot,he,he',Rat.add_zero]
theorem ZI {k:Int}(hk:single k=true){D N:Nat}(h:D<=N):Na D N (oq k):=by
 rcases aO hk with rfl|rfl|rfl|rfl|rfl
 ·exact Hm h
 ·trivial
 ·exact Hm h
 ·trivial
 ·intro e;show Fr D N (tot (bX 1) e);rw[yZ];split
  ·exact Hm h
  ·exact Fr.zero _ _
theorem V7 {k:Int}(hk:single k=true){S M D N N':Nat}{x y:Sv}(hx:x.of k S M)(hy:y.of k S M)(fx:Na D N x)(fy:Na D N' y):Na D (N+N') (dB k x y):=by
 rcases aO hk with rfl|rfl|rfl|rfl|rfl
 ·obtain⟨a,rfl,_⟩:=wX hx;obtain⟨b,rfl,_⟩:=wX hy;exact Fr.add fx fy
 ·obtain⟨i,n,rfl,_⟩:=wY hx;obtain⟨j,m,rfl,_⟩:=wY hy;rw[Y7];split<;>trivial
 ·obtain⟨a,rfl,_⟩:=wZ hx;obtain⟨b,rfl,_⟩:=wZ hy;rw[pl3];split
  ·exact Fr.mono fy omK
  ·exact Fr.mono fx omK
 ·obtain⟨u,rfl,_⟩:=w9 hx;obtain⟨v,rfl,_⟩:=w9 hy;trivial
 ·obtain⟨a,rfl,_⟩:=w_ hx;obtain⟨b,rfl,_⟩:=w_ hy;intro e;show Fr D _ (tot (gu a b) e);rw[jK];exact(fx e).add (fy e)
theorem QZ {k:Int}(hk:single k=true){S M S' M' D E N N':Nat}(hM:1<=M){x y:Sv}(hx:x.of k S M)(hy:y.of k S' M')(fx:Na D N x)(fy:Na E N' y):Na (D*E) (M*(N*N')) (dm x y):=by
 have hMN:N*N'<=M*(N*N'):=Nat.le_mul_of_pos_left _ hM;rcases aO hk with rfl|rfl|rfl|rfl|rfl
 ·obtain⟨a,rfl,_⟩:=wX hx;obtain⟨b,rfl,_⟩:=wX hy;exact(Fr.mul fx fy).mono hMN
 ·obtain⟨i,n,rfl,_⟩:=wY hx;obtain⟨j,m,rfl,_⟩:=wY hy;rw[Vi];split<;>trivial
 ·obtain⟨a,rfl,_⟩:=wZ hx;obtain⟨b,rfl,_⟩:=wZ hy;exact(Fr.mul fx fy).mono hMN
 ·obtain⟨u,rfl,_⟩:=w9 hx;obtain⟨v,rfl,_⟩:=w9 hy;trivial
 ·obtain⟨a,rfl,pa,la⟩:=w_ hx;obtain⟨b,rfl,_⟩:=w_ hy;intro e;show Fr _ _ (tot (iH a b) e);rw[l_];split
  ·refine(V5 (fun e=>fy e) e (fun p hp => ?_)).mono (Qe1 _ la);have:=fx p.1
   rwa [ug (jd pa.Mg) hp]at this
  ·exact Fr.zero _ _
theorem Nb {k:Int}(hk:single k=true){S M D N T:Nat}{x:Sv}(hx:x.of k S M)(fx:Na D N x)(hD:0<D)(hDT:D<4294967296 ^ T)(hN:N<4294967296 ^ T):x.of k T 216:=by
 rcases aO hk with rfl|rfl|rfl|rfl|rfl
 ·obtain⟨a,rfl,_⟩:=wX hx;exact⟨.inl rfl,Fr.qz hD fx hN hDT⟩
 ·obtain⟨i,n,rfl,h⟩:=wY hx;exact⟨rfl,h⟩
 ·obtain⟨a,rfl,h0,h1,_⟩:=wZ hx;exact⟨.inr ⟨rfl,h0,h1⟩,Fr.qz hD fx hN hDT⟩
 ·obtain⟨u,rfl,h⟩:=w9 hx;exact⟨rfl,h⟩
 ·obtain⟨a,rfl,pa,la⟩:=w_ hx;refine⟨rfl,⟨pa.Mg,pa.nz,pa.fits,fun p hp => ?_⟩,pa.length⟩;have:=fx p.1;rw[ug (jd pa.Mg) hp]at this;exact Fr.qz hD this hN hDT
section lists
variable {ks:List Int} (hs:∀ k ∈ ks,single k=true) {D E N N' S M:Nat} {x y:List Sv}
include hs
theorem oD (D N:Nat):uG D N (ks.map dF):=fun y hy=>by
 obtain⟨k,hk,rfl⟩:=Qg2.1 hy;exact V6 (hs k hk) D N
theorem ZJ (h:D<=N):uG D N (ks.map oq):=fun y hy=>by
 obtain⟨k,hk,rfl⟩:=Qg2.1 hy;exact ZI (hs k hk) h
theorem Dw (hx:vM ks x)(hy:vM ks y)(fx:uG D N x)(fy:uG D N' y):uG D (N+N') (bL ks x y):=by
 obtain⟨S,M,_,_,h3,h4⟩:=hx.two hy;intro w hw;obtain⟨i,hi⟩:=Qy1.1 hw;obtain⟨k,a,b,a1,a2,a3,rfl⟩:=gM hi;exact V7 (hs k (Qa2 a1)) (h3.2 i k a a1 a2) (h4.2 i k b a1 a3) (fx a (Qa2 a2)) (fy b (Qa2 a3))
theorem y5 (hM:1<=M)(hx:gU S M ks x)(hy:vM ks y)(fx:uG D N x)(fy:uG E N' y):uG (D*E) (M*(N*N')) (bu x y):=by
 obtain⟨S',M',_,_,h3⟩:=hy;intro w hw;obtain⟨i,hi⟩:=Qy1.1 hw;obtain⟨a,b,a2,a3,rfl⟩:=dX hi;have hlt:i<ks.length:=by rw[<-hx.1];exact(bD a2)
 have a1:=Qa0 hlt;exact QZ (hs _ (Qa2 a1)) hM (hx.2 i _ a a1 a2) (h3.2 i _ b a1 a3) (fx a (Qa2 a2)) (fy b (Qa2 a3))
theorem xH {T:Nat}(hx:vM ks x)(fx:uG D N x)(hD:0<D)(hDT:D<4294967296 ^ T)(hN:N<4294967296 ^ T):gU T 216 ks x:=by
 obtain⟨S,M,_,_,h⟩:=hx;exact⟨h.1,fun i k a hk ha=>Nb (hs k (Qa2 hk)) (h.2 i k a hk ha) (fx a (Qa2 ha)) hD hDT hN⟩
end lists
theorem Dx {a b:Int}{D c N:Nat}(hb:0<b)(hc:(c:Int)*b=D)(hN:a.natAbs*c<=N):Fr D N (rq a b):=by
 refine⟨a*c,?_,by rw[Int.natAbs_mul];simpa using hN⟩;have hb0:(b:Rat)≠0:=by
  intro h;have:=Rat.intCast_inj.1 (h.trans rfl:(b:Rat)=((0:Int):Rat));omega
 have hD:(D:Rat)=(c:Rat)*(b:Rat):=by
  have:((D:Int):Rat)=(((c:Int)*b:Int):Rat):=by rw[hc]
  rw[Rat.intCast_mul,Rat.intCast_natCast,Rat.intCast_natCast]at this;exact this
 rw[Tp a b omK,hD,Rat.intCast_mul,Rat.intCast_natCast];have:(a:Rat) / (b:Rat)*(b:Rat)=(a:Rat):=Rat.div_mul_cancel hb0;grind
theorem OZ (v:Int):Fr 6 36 (uF v):=by
 unfold uF;have h1:=Qn0 v (show(13:Int)≠0 by omega);have h2:=Ql0 v (show(0:Int)<13 by omega);have h3:=Qn0 (v.tdiv 13) (show(3:Int)≠0 by omega);have h4:=Ql0 (v.tdiv 13) (show(0:Int)<3 by omega);generalize v % 13=a,v.tdiv 13 % 3=b at*;have:b=0\/b=1\/b=2:=by omega
 rcases this with rfl|rfl|rfl
 ·exact Dx (c:=6) omK omK omK
 ·exact Dx (c:=3) omK omK omK
 ·exact Dx (c:=2) omK omK omK
theorem V8 (v:Int)(e:fM):Fr 6 64 (tot (zL v) e):=by
 have hc:∀ e,Fr 6 4 (tot (bX (rq (v % 5-2) 3)) e):=fun e=>by
  rw[yZ];split
  ·exact Dx (c:=2) omK omK omK
  ·exact Fr.zero _ _
 unfold zL;split
 ·rw[jK,l_];refine((hc e).add (M:=36) ?_).mono omK;split
  ·have:=V5 (D:=1) (N:=1) (f:=tot (bX (uF v))) (E:=6) (M:=36) (fun e=>by
    rw[yZ];split
    ·exact OZ v
    ·exact Fr.zero _ _) e (a:=[(gY ((v.tdiv 10) % 3).toNat,1)]) (fun p hp=>by
    rw[Q2]at hp;subst hp;exact Hm (Qd1 _))
   simpa using this
  ·exact Fr.zero _ _
 ·exact(hc e).mono omK
theorem Kb {k:Int}(hk:single k=true)(v:Int):Na 6 64 (Cn k v):=by
 rcases aO hk with rfl|rfl|rfl|rfl|rfl
 ·exact(OZ v).mono omK
 ·show Na 6 64 (if v % 11=10 then Sv.c true 0 else .c false (v % 11));split<;>trivial
 ·exact Dx (c:=1) omK omK omK
 ·trivial
 ·exact V8 v
theorem Dy {kk:Int}{ps:List Int}(h:aJ kk ps=true)(v:Int):uG 6 64 (rR kk ps v):=by
 have hs:=aQ h;unfold rR dz at*;intro x hx
 by_cases h6:kk=6
 ·simp only[if_pos h6]at*;obtain⟨i,hi,rfl⟩:=Qg2.1 hx;have hi':=Qz0.1 hi;have hg:ps.getD i 0=ps[i]:=by rw[Qh1,Qa0 hi'];rfl
  rw[hg];exact Kb (hs _ (Qi2 hi')) _
 ·simp only[if_neg h6]at*;rw[Q2]at hx;subst hx;exact Kb (hs kk (by simp)) v
end Fi.S
