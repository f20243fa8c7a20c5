import Derived.Test.YtckkhcnfdmlabaaGreatDoorCZ
set_option linter.unusedVariables false
set_option linter.unusedSimpArgs false
noncomputable section
namespace Fi.S
open Go Fi
section
structure Gf {α:Type}(P:α->Prop)(pl tm:α->α->α)(z o:α):Prop where
 pz:P z
 po:P o
 pp:∀ {x y},P x->P y->P (pl x y)
 pt:∀ {x y},P x->P y->P (tm x y)
 comm:∀ {x y},P x->P y->pl x y=pl y x
 assoc:∀ {x y w},P x->P y->P w->pl (pl x y) w=pl x (pl y w)
 zero:∀ {x},P x->pl x z=x
 Jl:∀ {x y},P x->P y->tm x y=tm y x
 abM:∀ {x y w},P x->P y->P w->tm (tm x y) w=tm x (tm y w)
 ahp:∀ {x},P x->tm x o=x
 Zt:∀ {x},P x->tm x z=z
 aeG:∀ {x y w},P x->P y->P w->tm x (pl y w)=pl (tm x y) (tm x w)
section
variable {α:Type} {P:α->Prop} {pl tm:α->α->α} {z o:α}
theorem Gf.zl (A:Gf P pl tm z o){x:α}(h:P x):pl z x=x:=by rw[A.comm A.pz h,A.zero h]
theorem Gf.zt (A:Gf P pl tm z o){x:α}(h:P x):tm z x=z:=by rw[A.Jl A.pz h,A.Zt h]
theorem Gf.aeH (A:Gf P pl tm z o){x y w:α}(hx:P x)(hy:P y)(hw:P w):tm (pl x y) w=pl (tm x w) (tm y w):=by
 rw[A.Jl (A.pp hx hy) hw,A.aeG hw hx hy,A.Jl hw hx,A.Jl hw hy]
def sm (pl:α->α->α)(z:α)(l:List α):α:=l.foldl pl z
variable (A:Gf P pl tm z o)
include A
theorem wJ:∀ {l:List α} {x:α},(∀ y ∈ l,P y)->P x->P (l.foldl pl x)/\l.foldl pl x=pl x (sm pl z l)
 | [],x,_,hx=>⟨hx,(A.zero hx).symm⟩
 | y::l,x,h,hx=>by
  have hy:=h y (by simp);have hl:∀ y ∈ l,P y:=fun y hy=>h y (by simp[hy])
  obtain⟨h1,h2⟩:=wJ hl (A.pp hx hy);obtain⟨h3,h4⟩:=wJ hl hy;have h5:P (sm pl z l):=(wJ hl A.pz).1;refine⟨h1,?_⟩;rw[List.foldl_cons,h2];show _=pl x ((y::l).foldl pl z);rw[List.foldl_cons,A.zl hy,h4,A.assoc hx hy h5]
theorem Gg {l:List α}(h:∀ y ∈ l,P y):P (sm pl z l):=(wJ A h A.pz).1
theorem fU {x:α}{l:List α}(hx:P x)(h:∀ y ∈ l,P y):sm pl z (x::l)=pl x (sm pl z l):=by
 show(x::l).foldl pl z=_;rw[List.foldl_cons,A.zl hx,(wJ A h hx).2]
theorem Yl {l m:List α}(hp:l.Perm m):(∀ y ∈ l,P y)->sm pl z l=sm pl z m:=by
 induction hp with
 | nil=>intro _;rfl
 | @cons x l m hp ih =>
  intro h;have hl:∀ y ∈ l,P y:=fun y hy=>h y (by simp[hy])
  rw[fU A (h x (by simp)) hl,fU A (h x (by simp)) (fun y hy=>hl y (hp.mem_iff.2 hy)),ih hl]
 | swap x y l =>
  intro h;have hx:=h x (by simp);have hy:=h y (by simp);have hl:∀ y ∈ l,P y:=fun y hy=>h y (by simp[hy])
  have hs:=Gg A hl;have hxl:∀ w ∈ x::l,P w:=fun w hw=>by
   rcases List.mem_cons.1 hw with rfl|hw
   ·exact hx
   ·exact hl w hw
  have hyl:∀ w ∈ y::l,P w:=fun w hw=>by
   rcases List.mem_cons.1 hw with rfl|hw
   ·exact hy
   ·exact hl w hw
  rw[fU A hy hxl,fU A hx hl,fU A hx hyl,fU A hy hl,<-A.assoc hy hx hs,<-A.assoc hx hy hs,A.comm hy hx]
 | @trans l m n h1 h2 ih1 ih2 =>
  intro h;rw[ih1 h,ih2 (fun y hy=>h y (h1.mem_iff.2 hy))]
abbrev PA (P:α->Prop)(l:List (Ar α)):Prop:=∀ a ∈ l,P a.x
theorem Cm {x:Ar α}(hx:P x.x):∀ {l:List (Ar α)},PA P l->PA P (bJ pl x l):=by
 intro l h;exact o7 pl x (fun y=>P y.x) (fun y=>P y.x) hx (fun y hy=>hy) (fun y hy=>A.pp hy hx) l h
structure Add (P:α->Prop)(pl:α->α->α)(h:Ar α->α):Prop where
 p:∀ a,P a.x->P (h a)
 a:∀ a b,kP a b->P a.x->P b.x->h (lh pl a b)=pl (h a) (h b)
theorem Cn {h:Ar α->α}(H:Add P pl h){x:Ar α}(hx:P x.x):∀ {l:List (Ar α)},PA P l->sm pl z ((bJ pl x l).map h)=pl (sm pl z (l.map h)) (h x)
 | [],_=>by
  show pl z (h x)=pl z (h x);rfl
 | y::l,hl=>by
  have hy:=hl y (by simp);have hl':PA P l:=fun a ha=>hl a (by simp[ha])
  have py:=H.p y hy;have px:=H.p x hx;have hm:∀ {m:List (Ar α)},PA P m->∀ w ∈ m.map h,P w:=fun hm w hw=>by
   obtain⟨a,ha,rfl⟩:=List.mem_map.1 hw;exact H.p a (hm a ha)
  have ps:=Gg A (hm hl');unfold bJ;split
  ·rw[List.map_cons,List.map_cons,fU A py (hm (Cm A hx hl')),Cn H hx hl',fU A py (hm hl'),A.assoc py ps px]
  ·split
   ·rename_i he;rw[List.map_cons,List.map_cons,fU A (H.p _ (A.pp hy hx)) (hm hl'),H.a y x he hy hx,fU A py (hm hl'),A.assoc py px ps,A.comm px ps,A.assoc py ps px]
   ·rw[List.map_cons,fU A px (hm hl),A.comm px (Gg A (hm hl))]
theorem ze {h:Ar α->α}(H:Add P pl h):∀ {l p:List (Ar α)},PA P l->PA P p->PA P (l.foldl (fun p x=>bJ pl x p) p)/\sm pl z ((l.foldl (fun p x=>bJ pl x p) p).map h)=pl (sm pl z (p.map h)) (sm pl z (l.map h))
 | [],p,_,hp=>⟨hp,by
   have:P (sm pl z (p.map h)):=Gg A (fun w hw=>by
    obtain⟨a,ha,rfl⟩:=List.mem_map.1 hw;exact H.p a (hp a ha))
   exact(A.zero this).symm⟩
 | x::l,p,hl,hp=>by
  have hx:=hl x (by simp);have hl':PA P l:=fun a ha=>hl a (by simp[ha])
  have hm:∀ {m:List (Ar α)},PA P m->∀ w ∈ m.map h,P w:=fun hm w hw=>by
   obtain⟨a,ha,rfl⟩:=List.mem_map.1 hw;exact H.p a (hm a ha)
  obtain⟨h1,h2⟩:=ze H hl' (Cm A hx hp);rw[List.foldl_cons];refine⟨h1,?_⟩;rw[h2,Cn A H hx hp,List.map_cons,fU A (H.p x hx) (hm hl'),A.assoc (Gg A (hm hp)) (H.p x hx) (Gg A (hm hl'))]
theorem rz {h:Ar α->α}(H:Add P pl h){l:List (Ar α)}(hl:PA P l):sm pl z ((dU pl l).map h)=sm pl z (l.map h):=by
 have:=(ze A H (p:=[]) hl (fun a ha=>by cases ha)).2;unfold dU;rw[this];exact A.zl (Gg A (fun w hw=>by
  obtain⟨a,ha,rfl⟩:=List.mem_map.1 hw;exact H.p a (hl a ha)))
theorem x_ {l:List (Ar α)}(hl:PA P l):PA P (dU pl l):=by
 have:∀ (l p:List (Ar α)),PA P l->PA P p->PA P (l.foldl (fun p x=>bJ pl x p) p):=by
  intro l
  induction l with
  | nil=>intro p _ hp;exact hp
  | cons x l ih=>intro p hl hp;exact ih _ (fun a ha=>hl a (by simp[ha])) (Cm A (hl x (by simp)) hp)
 exact this l [] hl (fun a ha=>by cases ha)
theorem ND {β:Type}{h:β->α}{q:β->Bool}:∀ {l:List β},(∀ a ∈ l,P (h a))->(∀ a ∈ l,q a=false->h a=z)->sm pl z ((l.filter q).map h)=sm pl z (l.map h)
 | [],_,_=>rfl
 | a::l,hp,hq=>by
  have ih:=ND (l:=l) (fun b hb=>hp b (by simp[hb])) (fun b hb=>hq b (by simp[hb]));have hm:∀ w ∈ l.map h,P w:=fun w hw=>by
   obtain⟨b,hb,rfl⟩:=List.mem_map.1 hw;exact hp b (by simp[hb])
  have hmf:∀ w ∈ (l.filter q).map h,P w:=fun w hw=>by
   obtain⟨b,hb,rfl⟩:=List.mem_map.1 hw;exact hp b (by simp[(List.mem_filter.1 hb).1])
  rw[List.map_cons,fU A (hp a (by simp)) hm];cases hqa:q a with
  | true=>rw[List.filter_cons_of_pos hqa,List.map_cons,fU A (hp a (by simp)) hmf,ih]
  | false=>rw[List.filter_cons_of_neg (by simp[hqa]),ih,hq a (by simp) hqa,A.zl (Gg A hm)]
theorem PW {h:Ar α->α}(H:Add P pl h){fD:α->Bool}(hz:∀ a,P a.x->fD a.x=true->h a=z){l:List (Ar α)}(hl:PA P l):sm pl z ((gy pl fD l).map h)=sm pl z (l.map h):=by
 have hr:=x_ A hl;rw[<-rz A H hl];exact ND A (fun a ha=>H.p a (hr a ha)) (fun a ha hq=>hz a (hr a ha) (by simpa using hq))
omit A
abbrev Co (l:List (Ar α)):Prop:=l.Pairwise jP
theorem Cq {x:Ar α}{l:List (Ar α)}{y:Ar α}(h:y ∈ bJ pl x l):kP y x\/∃ a ∈ l,kP a y:=by
 have:=o7 pl x (fun a=>a ∈ l) (fun y=>kP y x\/∃ a ∈ l,kP a y) (.inl ⟨rfl,rfl,rfl⟩) (fun y hy=>.inr ⟨y,hy,rfl,rfl,rfl⟩) (fun y hy=>.inr ⟨y,hy,rfl,rfl,rfl⟩) l (fun y hy=>hy);exact this y h
theorem Cr (x:Ar α):∀ {l:List (Ar α)},Co l->Co (bJ pl x l)
 | [],_=>by simp[bJ]
 | y::l,h=>by
  obtain⟨h1,h2⟩:=List.pairwise_cons.1 h;unfold bJ;split
  ·rename_i hl;refine List.pairwise_cons.2 ⟨fun c hc => ?_,Cr x h2⟩;rcases Cq hc with hc|⟨a,ha,he⟩
   ·unfold jP kP at*;omega
   ·have:=h1 a ha;unfold jP kP at*;omega
  ·split
   ·exact List.pairwise_cons.2 ⟨fun c hc=>h1 c hc,h2⟩
   ·rename_i hl he;have hxy:jP x y:=by
     rcases jE y x with g|g|g
     ·exact absurd g hl
     ·exact absurd g he
     ·exact g
    refine List.pairwise_cons.2 ⟨fun c hc => ?_,h⟩;rcases List.mem_cons.1 hc with rfl|hc
    ·exact hxy
    ·exact Px hxy (h1 c hc)
theorem ng (l:List (Ar α)):Co (dU pl l):=by
 have:∀ (l p:List (Ar α)),Co p->Co (l.foldl (fun p x=>bJ pl x p) p):=by
  intro l
  induction l with
  | nil=>intro p hp;exact hp
  | cons x l ih=>intro p hp;exact ih _ (Cr x hp)
 exact this l [] List.Pairwise.nil
theorem Cs {x:Ar α}:∀ {l:List (Ar α)},∃ y ∈ bJ pl x l,kP y x
 | []=>⟨x,by simp[bJ],rfl,rfl,rfl⟩
 | a::l=>by
  unfold bJ;split
  ·obtain⟨y,h1,h2⟩:=Cs (l:=l);exact⟨y,by simp[h1],h2⟩
  ·split
   ·rename_i he;exact⟨lh pl a x,List.mem_cons_self ..,he⟩
   ·exact⟨x,by simp,rfl,rfl,rfl⟩
theorem zf {x a:Ar α}:∀ {l:List (Ar α)},a ∈ l->∃ y ∈ bJ pl x l,kP y a
 | b::l,h=>by
  unfold bJ;split
  ·rcases List.mem_cons.1 h with rfl|h
   ·exact⟨a,by simp,rfl,rfl,rfl⟩
   ·obtain⟨y,h1,h2⟩:=zf (x:=x) h;exact⟨y,by simp[h1],h2⟩
  ·split
   ·rcases List.mem_cons.1 h with rfl|h
    ·exact⟨lh pl a x,List.mem_cons_self ..,rfl,rfl,rfl⟩
    ·exact⟨a,List.mem_cons_of_mem _ h,rfl,rfl,rfl⟩
   ·exact⟨a,List.mem_cons_of_mem _ h,rfl,rfl,rfl⟩
theorem wK {l:List (Ar α)}(c:Ar α):(∃ y ∈ dU pl l,kP y c)↔∃ a ∈ l,kP a c:=by
 have key:∀ (l p:List (Ar α)),(∃ y ∈ l.foldl (fun p x=>bJ pl x p) p,kP y c)↔(∃ a ∈ p,kP a c)\/∃ a ∈ l,kP a c:=by
  intro l
  induction l with
  | nil=>intro p;simp
  | cons x l ih =>
   intro p;rw[List.foldl_cons,ih];constructor
   ·rintro(⟨y,h1,h2⟩|⟨y,h1,h2⟩)
    ·rcases Cq h1 with h|⟨a,h3,h4⟩
     ·exact .inr ⟨x,by simp,by unfold kP at*;omega⟩
     ·exact .inl ⟨a,h3,by unfold kP at*;omega⟩
    ·exact .inr ⟨y,by simp[h1],h2⟩
   ·rintro(⟨y,h1,h2⟩|⟨y,h1,h2⟩)
    ·obtain⟨w,h3,h4⟩:=zf (pl:=pl) (x:=x) h1;exact .inl ⟨w,h3,by unfold kP at*;omega⟩
    ·rcases List.mem_cons.1 h1 with rfl|h1
     ·obtain⟨w,h3,h4⟩:=Cs (pl:=pl) (x:=y) (l:=p);exact .inl ⟨w,h3,by unfold kP at*;omega⟩
     ·exact .inr ⟨y,h1,h2⟩
 rw[show dU pl l=l.foldl (fun p x=>bJ pl x p) [] from rfl,key];simp
def hAt (z:α)(c a:Ar α):α:=if kP a c then a.x else z
theorem Ac (A:Gf P pl tm z o)(c:Ar α):Add P pl (hAt z c):=by
 refine⟨fun a ha => ?_,fun a b he ha hb => ?_⟩
 ·unfold hAt;split
  ·exact ha
  ·exact A.pz
 ·unfold hAt
  by_cases h:kP a c
  ·have h2:kP b c:=by unfold kP at*;omega
   rw[if_pos (F5.2 h),if_pos h,if_pos h2];rfl
  ·have h2:¬ kP b c:=by unfold kP at*;omega
   rw[if_neg (fun g=>h (F5.1 g)),if_neg h,if_neg h2,A.zero A.pz]
theorem Gh (A:Gf P pl tm z o){c:Ar α}:∀ {l:List (Ar α)},PA P l->Co l->c ∈ l->sm pl z (l.map (hAt z c))=c.x
 | a::l,hl,hs,hc=>by
  obtain⟨h1,h2⟩:=List.pairwise_cons.1 hs;have hl':PA P l:=fun b hb=>hl b (by simp[hb])
  have H:=Ac A c;have hm:∀ w ∈ l.map (hAt z c),P w:=fun w hw=>by
   obtain⟨b,hb,rfl⟩:=List.mem_map.1 hw;exact H.p b (hl' b hb)
  rw[List.map_cons,fU A (H.p a (hl a (by simp))) hm];rcases List.mem_cons.1 hc with rfl|hc
  ·have hn:sm pl z (l.map (hAt z c))=z:=by
    have:∀ (m:List (Ar α)),(∀ b ∈ m,jP c b)->sm pl z (m.map (hAt z c))=z:=by
     intro m
     induction m with
     | nil=>intro _;rfl
     | cons b m ih =>
      intro h;have e1:hAt z c b=z:=if_neg (fun g=>I9 (h b (by simp)) g);have e2:=ih (fun b hb=>h b (by simp[hb]));show(List.map (hAt z c) (b::m)).foldl pl z=z;rw[List.map_cons,e1,List.foldl_cons,A.zero A.pz];exact e2
    exact this l h1
   rw[hn,show hAt z c c=c.x from if_pos ⟨rfl,rfl,rfl⟩,A.zero (hl c (by simp))]
  ·rw[show hAt z c a=z from if_neg (wz (h1 c hc)),Gh A hl' h2 hc,A.zl (hl c (by simp[hc]))]
theorem Ct:∀ {l m:List (Ar α)},Co l->Co m->(∀ a,a ∈ l↔a ∈ m)->l=m
 | [],[],_,_,_=>rfl
 | [],b::m,_,_,h=>by have:=(h b).2 (by simp);cases this
 | a::l,[],_,_,h=>by have:=(h a).1 (by simp);cases this
 | a::l,b::m,hl,hm,h=>by
  obtain⟨h1,h2⟩:=List.pairwise_cons.1 hl;obtain⟨k1,k2⟩:=List.pairwise_cons.1 hm;have hab:a=b:=by
   rcases List.mem_cons.1 ((h a).1 (by simp)) with g|g
   ·exact g
   ·rcases List.mem_cons.1 ((h b).2 (by simp)) with g2|g2
    ·exact g2.symm
    ·exact absurd (h1 b g2) (nU (k1 a g))
  subst hab;have irr:∀ {c:Ar α},¬ jP c c:=fun g=>nU g g
  rw[Ct h2 k2 (fun c=>⟨fun hc=>by
   rcases List.mem_cons.1 ((h c).1 (by simp[hc])) with rfl|g
   ·exact absurd (h1 c hc) irr
   ·exact g,fun hc=>by
   rcases List.mem_cons.1 ((h c).2 (by simp[hc])) with rfl|g
   ·exact absurd (k1 c hc) irr
   ·exact g⟩)]
theorem zg (A:Gf P pl tm z o){l:List (Ar α)}(hl:PA P l)(c:Ar α):c ∈ dU pl l↔(∃ a ∈ l,kP a c)/\c.x=sm pl z (l.map (hAt z c)):=by
 have hr:=x_ A hl;have hs:=ng (pl:=pl) l;constructor
 ·intro hc;refine⟨(wK c).1 ⟨c,hc,rfl,rfl,rfl⟩,?_⟩;rw[<-rz A (Ac A c) hl,Gh A hr hs hc]
 ·rintro⟨h1,h2⟩;obtain⟨y,h3,h4⟩:=(wK (pl:=pl) c).2 h1;have h5:y.x=sm pl z (l.map (hAt z y)):=by rw[<-rz A (Ac A y) hl,Gh A hr hs h3]
  have h6:hAt z y=hAt z c:=by
   funext a
   unfold hAt;have:kP a y↔kP a c:=by unfold kP at*;omega
   simp[this]
  rw[h6,<-h2]at h5;have:y=c:=by
   obtain⟨f,l',t,x⟩:=y;obtain⟨f2,l2,t2,x2⟩:=c;obtain⟨g1,g2,g3⟩:=h4;simp only at g1 g2 g3 h5;subst g1 g2 g3 h5;rfl
  rw[<-this];exact h3
theorem Gi (A:Gf P pl tm z o){l m:List (Ar α)}(hp:l.Perm m)(hl:PA P l):dU pl l=dU pl m:=by
 have hm:PA P m:=fun a ha=>hl a (hp.mem_iff.2 ha)
 refine Ct (ng l) (ng m) (fun c => ?_);rw[zg A hl,zg A hm,Yl A (hp.map (hAt z c)) (fun w hw=>by
  obtain⟨b,hb,rfl⟩:=List.mem_map.1 hw;exact(Ac A c).p b (hl b hb))]
 constructor
 ·rintro⟨⟨a,h1,h2⟩,h3⟩;exact⟨⟨a,hp.mem_iff.1 h1,h2⟩,h3⟩
 ·rintro⟨⟨a,h1,h2⟩,h3⟩;exact⟨⟨a,hp.mem_iff.2 h1,h2⟩,h3⟩
theorem LY {l:List (Ar α)}(hs:Co l):dU pl l=l:=by
 have ins:∀ (p:List (Ar α)) (x:Ar α),(∀ y ∈ p,jP y x)->bJ pl x p=p++[x]:=by
  intro p x
  induction p with
  | nil=>intro _;rfl
  | cons y p ih =>
   intro h;rw[bJ,if_pos (h y (by simp)),ih (fun y hy=>h y (by simp[hy]))];rfl
 have:∀ (l p:List (Ar α)),Co (p++l)->l.foldl (fun p x=>bJ pl x p) p=p++l:=by
  intro l
  induction l with
  | nil=>intro p _;simp
  | cons x l ih =>
   intro p h;have h1:=List.pairwise_append.1 h;rw[List.foldl_cons,ins p x (fun y hy=>h1.2.2 y hy x (by simp)),ih _ (by simpa using h)];simp
 exact this l [] (by simpa using hs)
theorem PX (fD:α->Bool)(l:List (Ar α)):Co (gy pl fD l):=(ng l).sublist List.filter_sublist
theorem LZ (fD:α->Bool)(l:List (Ar α)):gy pl fD (gy pl fD l)=gy pl fD l:=by
 show(dU pl (gy pl fD l)).filter (fun a => !fD a.x)=_;rw[LY (PX fD l)];unfold gy;rw[List.filter_filter];simp
theorem L6 (A:Gf P pl tm z o)(fD:α->Bool){l m:List (Ar α)}(hp:l.Perm m)(hl:PA P l):gy pl fD l=gy pl fD m:=by
 unfold gy;rw[Gi A hp hl]
def gV (pl tm:α->α->α)(z:α)(fin:List α)(aB:List (Ar α)):List Int->Int->α
 | [],s=>fin.getD s.toNat z
 | x::r,s=>aB.foldl (fun acc a=>if a.f=s/\a.l=x then pl acc (tm a.x (gV pl tm z fin aB r a.t)) else acc) z
def hFr (tm:α->α->α)(z:α)(s x:Int)(F:Int->α)(a:Ar α):α:=if a.f=s/\a.l=x then tm a.x (F a.t) else z
theorem rA (A:Gf P pl tm z o)(s x:Int)(F:Int->α)(hF:∀ t,P (F t)):∀ (l:List (Ar α)) (acc:α),PA P l->P acc->l.foldl (fun acc a=>if a.f=s/\a.l=x then pl acc (tm a.x (F a.t)) else acc) acc=(l.map (hFr tm z s x F)).foldl pl acc
 | [],_,_,_=>rfl
 | a::l,acc,hl,ha=>by
  have hl':PA P l:=fun b hb=>hl b (by simp[hb])
  rw[List.foldl_cons,List.map_cons,List.foldl_cons];unfold hFr
  by_cases h:a.f=s/\a.l=x
  ·rw[if_pos h,if_pos h];exact rA A s x F hF l _ hl' (A.pp ha (A.pt (hl a (by simp)) (hF _)))
  ·rw[if_neg h,if_neg h,A.zero ha];exact rA A s x F hF l _ hl' ha
theorem NF (A:Gf P pl tm z o)(s x:Int)(F:Int->α)(hF:∀ t,P (F t)):Add P pl (hFr tm z s x F):=by
 refine⟨fun a ha => ?_,fun a b he ha hb => ?_⟩
 ·unfold hFr;split
  ·exact A.pt ha (hF _)
  ·exact A.pz
 ·obtain⟨e1,e2,e3⟩:=he;unfold hFr lh;simp only
  by_cases h:a.f=s/\a.l=x
  ·have h2:b.f=s/\b.l=x:=by rw[<-e1,<-e2];exact h
   rw[if_pos h,if_pos h,if_pos h2,<-e3,A.aeH ha hb (hF _)]
  ·have h2:¬ (b.f=s/\b.l=x):=by rw[<-e1,<-e2];exact h
   rw[if_neg h,if_neg h,if_neg h2,A.zero A.pz]
theorem NG (A:Gf P pl tm z o){fin:List α}{aB:List (Ar α)}(hf:∀ x ∈ fin,P x)(hl:PA P aB):∀ (w:List Int) (s:Int),P (gV pl tm z fin aB w s)
 | [],s=>by
  show P (fin.getD s.toNat z);rw[List.getD_eq_getElem?_getD];cases h:fin[s.toNat]? with
  | none=>exact A.pz
  | some x=>exact hf x (List.mem_of_getElem? h)
 | x::r,s=>by
  have ih:=NG A hf hl r;show P (aB.foldl _ z);rw[rA A s x _ ih aB z hl A.pz];exact Gg A (fun w hw=>by
   obtain⟨b,hb,rfl⟩:=List.mem_map.1 hw;exact(NF A s x _ ih).p b (hl b hb))
theorem zh (A:Gf P pl tm z o){fD:α->Bool}(hz:∀ x,P x->fD x=true->x=z){fin:List α}{aB:List (Ar α)}(hf:∀ x ∈ fin,P x)(hl:PA P aB):∀ (w:List Int) (s:Int),gV pl tm z fin (gy pl fD aB) w s=gV pl tm z fin aB w s
 | [],s=>rfl
 | x::r,s=>by
  have ih:=zh A hz hf hl r;have hP:=NG A hf hl r;have hln:PA P (gy pl fD aB):=fun a ha=>x_ A hl a (List.mem_filter.1 ha).1
  show(gy pl fD aB).foldl _ z=aB.foldl _ z;rw[show gV pl tm z fin (gy pl fD aB) r=gV pl tm z fin aB r from funext ih,rA A s x _ hP _ z hln A.pz,rA A s x _ hP _ z hl A.pz];refine PW A (NF A s x _ hP) (fun a ha hi => ?_) hl;unfold hFr;rw[hz _ ha hi];split
  ·exact A.zt (hP _)
  ·rfl
def yg (pl tm:α->α->α)(z:α)(aZ fin:List α)(aB:List (Ar α))(w:List Int):α :=
 (List.range aZ.length).foldl (fun acc i=>pl acc (tm (aZ.getD i z) (gV pl tm z fin aB w i))) z
theorem Gj (A:Gf P pl tm z o){fD:α->Bool}(hz:∀ x,P x->fD x=true->x=z){aZ fin:List α}{aB:List (Ar α)}(hf:∀ x ∈ fin,P x)(hl:PA P aB)(w:List Int) :
  yg pl tm z aZ fin (gy pl fD aB) w=yg pl tm z aZ fin aB w:=by
 unfold yg;rw[show gV pl tm z fin (gy pl fD aB) w=gV pl tm z fin aB w from funext (zh A hz hf hl w)]
end
end
def Fr (D N:Nat)(x:Rat):Prop:=∃ n:Int,x*(D:Rat)=(n:Rat)/\n.natAbs<=N
theorem Fr.mono {D N M:Nat}{x:Rat}(h:Fr D N x)(hN:N<=M):Fr D M x:=by
 obtain⟨n,h1,h2⟩:=h;exact⟨n,h1,by omega⟩
theorem Fr.zero (D N:Nat):Fr D N 0:=⟨0,by simp[Rat.zero_mul],by simp⟩
theorem Fr.add {D N M:Nat}{x y:Rat}(h:Fr D N x)(k:Fr D M y):Fr D (N+M) (x+y):=by
 obtain⟨n,h1,h2⟩:=h;obtain⟨m,k1,k2⟩:=k;refine⟨n+m,?_,by omega⟩;rw[Rat.add_mul,h1,k1,Rat.intCast_add]
theorem Fr.mul {D E N M:Nat}{x y:Rat}(h:Fr D N x)(k:Fr E M y):Fr (D*E) (N*M) (x*y):=by
 obtain⟨n,h1,h2⟩:=h;obtain⟨m,k1,k2⟩:=k;refine⟨n*m,?_,?_⟩
 ·rw[Rat.natCast_mul,Rat.intCast_mul,<-h1,<-k1];grind
 ·rw[Int.natAbs_mul];exact Nat.mul_le_mul h2 k2
theorem NH (x:Rat):x*(x.den:Rat)=(x.num:Rat):=by
 have h:=Rat.num_divInt_den x;rw[Rat.divInt_eq_div]at h;have h0:((x.den:Int):Rat)≠0:=by
  intro h1;have h2:((x.den:Int):Rat)=((0:Int):Rat):=h1;have:=Rat.intCast_inj.1 h2;have:=x.den_nz;omega
 have h3:((x.num:Rat) / ((x.den:Int):Rat))*((x.den:Int):Rat)=(x.num:Rat):=Rat.div_mul_cancel h0;rw[h]at h3;exact h3
theorem Fr.of (x:Rat):Fr x.den x.num.natAbs x:=⟨x.num,NH x,Nat.le_refl _⟩
theorem Fr.parts {D N:Nat}(hD:0<D){x:Rat}(h:Fr D N x):x.num.natAbs<=N/\x.den<=D:=by
 obtain⟨n,h1,h2⟩:=h;have hx:x.num*(D:Int)=n*(x.den:Int):=by
  have h3:(x.num:Rat)*(D:Rat)=(n:Rat)*(x.den:Rat):=by
   rw[<-h1,<-NH x];grind
  have h4:((x.num*(D:Int):Int):Rat)=((n*(x.den:Int):Int):Rat):=by
   rw[Rat.intCast_mul,Rat.intCast_mul,Rat.intCast_natCast,Rat.intCast_natCast];exact h3
  exact Rat.intCast_inj.1 h4
 have ha:x.num.natAbs*D=n.natAbs*x.den:=by
  have:=congrArg Int.natAbs hx;simpa[Int.natAbs_mul] using this
 have hc:Nat.Coprime x.den x.num.natAbs:=Nat.Coprime.symm x.reduced;have hd:x.den ∣ D:=hc.dvd_of_dvd_mul_left ⟨n.natAbs,by rw[ha,Nat.mul_comm]⟩;obtain⟨c,rfl⟩:=hd;have hden:0<x.den:=Nat.pos_of_ne_zero x.den_nz;have hc0:0<c:=Nat.pos_of_mul_pos_left hD;have hn:x.num.natAbs*c=n.natAbs:=by
  refine Nat.eq_of_mul_eq_mul_right hden ?_;rw[<-ha,Nat.mul_assoc,Nat.mul_comm c]
 refine⟨?_,Nat.le_mul_of_pos_right _ hc0⟩;have:=Nat.le_mul_of_pos_right x.num.natAbs hc0;omega
theorem Fr.qz {D N k:Nat}(hD:0<D){x:Rat}(h:Fr D N x)(hN:N<4294967296 ^ k)(hDk:D<4294967296 ^ k):qz x<=k:=by
 obtain⟨h1,h2⟩:=h.parts hD;exact Nat.max_le.2 ⟨tQ (Nat.lt_of_le_of_lt h1 hN),tQ (Nat.lt_of_le_of_lt h2 hDk)⟩
theorem UO {D N E M:Nat}{f:fE->Rat}(hf:∀ e,Fr E M (f e))(e:fE):∀ {a:List aW},(∀ p ∈ a,Fr D N p.2)->Fr (D*E) (a.length*(N*M)) (cv a f e)
 | [],_=>Fr.zero _ _
 | (d,y)::a,h=>by
  have h1:=(h (d,y) (List.mem_cons_self ..)).mul (hf (e.1-d.1,e.2.1-d.2.1,e.2.2-d.2.2));have h2:=UO hf e (a:=a) (fun p hp=>h p (List.mem_cons_of_mem _ hp));refine(h1.add h2).mono ?_;rw[List.length_cons,Nat.add_mul];omega
end Fi.S
noncomputable section
namespace Fi.S
open Go Fi
set_option maxHeartbeats 8000000
def u_ (ks:List Int)(xs:List Sv):Prop:=∃ S M,1<=S/\1<=M/\gH S M ks xs
theorem u_.two {ks:List Int}{x y:List Sv}:u_ ks x->u_ ks y->∃ S M,1<=S/\1<=M/\gH S M ks x/\gH S M ks y:=by
 rintro⟨S,M,h1,h2,h3⟩ ⟨T,N,k1,k2,k3⟩;exact⟨S+T,M+N,by omega,by omega,h3.mono (by omega) (by omega),k3.mono (by omega) (by omega)⟩
theorem u_.three {ks:List Int}{x y w:List Sv}(hx:u_ ks x)(hy:u_ ks y):u_ ks w->∃ S M,1<=S/\1<=M/\gH S M ks x/\gH S M ks y/\gH S M ks w:=by
 rintro⟨T,N,k1,k2,k3⟩;obtain⟨S,M,h1,h2,h3,h4⟩:=hx.two hy;exact⟨S+T,M+N,by omega,by omega,h3.mono (by omega) (by omega),h4.mono (by omega) (by omega),k3.mono (by omega) (by omega)⟩
theorem Jm {ks:List Int}(hs:∀ k ∈ ks,single k=true):Gf (u_ ks) (bL ks) bq (ks.map dC) (ks.map nS) where
 pz:=⟨1,1,by omega,by omega,jY (by omega) hs⟩
 po:=⟨1,1,by omega,by omega,IU (by omega) (by omega) hs⟩
 pp h k:=by
  obtain⟨S,M,h1,h2,h3,h4⟩:=h.two k;exact⟨_,_,by omega,by omega,BU h1 h1 hs h3 h4⟩
 pt h k:=by
  obtain⟨S,M,h1,h2,h3,h4⟩:=h.two k;exact⟨_,_,by omega,Nat.mul_pos h2 h2,Lr h1 h2 hs h3 h4⟩
 comm h k:=by
  obtain⟨S,M,h1,h2,h3,h4⟩:=h.two k;exact Ls h1 hs h3 h4
 assoc h k l:=by
  obtain⟨S,M,h1,h2,h3,h4,h5⟩:=h.three k l;exact IM h1 hs h3 h4 h5
 zero h:=by
  obtain⟨S,M,h1,h2,h3⟩:=h;exact BK h1 hs h3
 Jl h k:=by
  obtain⟨S,M,h1,h2,h3,h4⟩:=h.two k;exact IL h1 hs h3 h4
 abM h k l:=by
  obtain⟨S,M,h1,h2,h3,h4,h5⟩:=h.three k l;exact FY h1 hs h3 h4 h5
 ahp h:=by
  obtain⟨S,M,h1,h2,h3⟩:=h;exact Lt h1 hs h3
 Zt h:=by
  obtain⟨S,M,h1,h2,h3⟩:=h;exact IQ hs h3
 aeG h k l:=by
  obtain⟨S,M,h1,h2,h3,h4,h5⟩:=h.three k l;exact IP h1 hs h3 h4 h5
def L8 (D N:Nat):Sv->Prop
 | .q a=>Fr D N a
 | .p l=>∀ e,Fr D N (tot l e)
 | _=>True
def tJ (D N:Nat)(xs:List Sv):Prop:=∀ x ∈ xs,L8 D N x
theorem L8.mono {D N M:Nat}{x:Sv}(h:L8 D N x)(hN:N<=M):L8 D M x:=by
 cases x with
 | q a=>exact Fr.mono h hN
 | p l=>exact fun e=>(h e).mono hN
 | c i n=>trivial
 | s u=>trivial
theorem tJ.mono {D N M:Nat}{x:List Sv}(h:tJ D N x)(hN:N<=M):tJ D M x:=fun y hy=>(h y hy).mono hN
theorem UQ {k:Int}(hk:single k=true)(D N:Nat):L8 D N (dC k):=by
 rcases aL hk with rfl|rfl|rfl|rfl|rfl
 ·exact Fr.zero D N
 ·trivial
 ·exact Fr.zero D N
 ·trivial
 ·exact fun e=>Fr.zero D N
theorem Gl {D N:Nat}(h:D<=N):Fr D N 1:=⟨D,by rw[Rat.one_mul];rfl,by omega⟩
theorem yh (x:Rat)(e:fE):tot (bV x) e=if e=(0,0,0) then x else 0:=by
 unfold bV
 by_cases h:x=0
 ·rw[if_pos h];subst h;simp[tot]
 ·rw[if_neg h]
  by_cases he:e=(0,0,0)
  ·subst he;simp[tot,Rat.add_zero]
  ·have he':¬ (((0:Int),(0:Int),(0:Int))=e):=fun g=>he g.symm
   simp[tot,he,he',Rat.add_zero]
theorem Ym {k:Int}(hk:single k=true){D N:Nat}(h:D<=N):L8 D N (nS k):=by
 rcases aL hk with rfl|rfl|rfl|rfl|rfl
 ·exact Gl h
 ·trivial
 ·exact Gl h
 ·trivial
 ·intro e;show Fr D N (tot (bV 1) e);rw[yh];split
  ·exact Gl h
  ·exact Fr.zero _ _
theorem UR {k:Int}(hk:single k=true){S M D N N':Nat}{x y:Sv}(hx:x.of k S M)(hy:y.of k S M)(fx:L8 D N x)(fy:L8 D N' y):L8 D (N+N') (dz k x y):=by
 rcases aL hk with rfl|rfl|rfl|rfl|rfl
 ·obtain⟨a,rfl,_⟩:=vW hx;obtain⟨b,rfl,_⟩:=vW hy;exact Fr.add fx fy
 ·obtain⟨i,n,rfl,_⟩:=vX hx;obtain⟨j,m,rfl,_⟩:=vX hy;rw[XL];split<;>trivial
 ·obtain⟨a,rfl,_⟩:=vY hx;obtain⟨b,rfl,_⟩:=vY hy;rw[pl3];split
  ·exact Fr.mono fy (by omega)
  ·exact Fr.mono fx (by omega)
 ·obtain⟨u,rfl,_⟩:=vZ hx;obtain⟨v,rfl,_⟩:=vZ hy;trivial
 ·obtain⟨a,rfl,_⟩:=v_ hx;obtain⟨b,rfl,_⟩:=v_ hy;intro e;show Fr D _ (tot (fQ a b) e);rw[jB];exact(fx e).add (fy e)
theorem PY {k:Int}(hk:single k=true){S M S' M' D E N N':Nat}(hM:1<=M){x y:Sv}(hx:x.of k S M)(hy:y.of k S' M')(fx:L8 D N x)(fy:L8 E N' y):L8 (D*E) (M*(N*N')) (df x y):=by
 have hMN:N*N'<=M*(N*N'):=Nat.le_mul_of_pos_left _ hM;rcases aL hk with rfl|rfl|rfl|rfl|rfl
 ·obtain⟨a,rfl,_⟩:=vW hx;obtain⟨b,rfl,_⟩:=vW hy;exact(Fr.mul fx fy).mono hMN
 ·obtain⟨i,n,rfl,_⟩:=vX hx;obtain⟨j,m,rfl,_⟩:=vX hy;rw[Uc];split<;>trivial
 ·obtain⟨a,rfl,_⟩:=vY hx;obtain⟨b,rfl,_⟩:=vY hy;exact(Fr.mul fx fy).mono hMN
 ·obtain⟨u,rfl,_⟩:=vZ hx;obtain⟨v,rfl,_⟩:=vZ hy;trivial
 ·obtain⟨a,rfl,pa,la⟩:=v_ hx;obtain⟨b,rfl,_⟩:=v_ hy;intro e;show Fr _ _ (tot (iA a b) e);rw[lK];split
  ·refine(UO (fun e=>fy e) e (fun p hp => ?_)).mono (Nat.mul_le_mul_right _ la);have:=fx p.1
   rwa [sI (iV pa.KY) hp]at this
  ·exact Fr.zero _ _
theorem L9 {k:Int}(hk:single k=true){S M D N T:Nat}{x:Sv}(hx:x.of k S M)(fx:L8 D N x)(hD:0<D)(hDT:D<4294967296 ^ T)(hN:N<4294967296 ^ T):x.of k T 216:=by
 rcases aL hk with rfl|rfl|rfl|rfl|rfl
 ·obtain⟨a,rfl,_⟩:=vW hx;exact⟨.inl rfl,Fr.qz hD fx hN hDT⟩
 ·obtain⟨i,n,rfl,h⟩:=vX hx;exact⟨rfl,h⟩
 ·obtain⟨a,rfl,h0,h1,_⟩:=vY hx;exact⟨.inr ⟨rfl,h0,h1⟩,Fr.qz hD fx hN hDT⟩
 ·obtain⟨u,rfl,h⟩:=vZ hx;exact⟨rfl,h⟩
 ·obtain⟨a,rfl,pa,la⟩:=v_ hx;refine⟨rfl,⟨pa.KY,pa.nz,pa.fits,fun p hp => ?_⟩,pa.length⟩;have:=fx p.1;rw[sI (iV pa.KY) hp]at this;exact Fr.qz hD this hN hDT
section lists
variable {ks:List Int} (hs:∀ k ∈ ks,single k=true) {D E N N' S M:Nat} {x y:List Sv}
include hs
theorem nW (D N:Nat):tJ D N (ks.map dC):=fun y hy=>by
 obtain⟨k,hk,rfl⟩:=List.mem_map.1 hy;exact UQ (hs k hk) D N
theorem Yn (h:D<=N):tJ D N (ks.map nS):=fun y hy=>by
 obtain⟨k,hk,rfl⟩:=List.mem_map.1 hy;exact Ym (hs k hk) h
theorem Cu (hx:u_ ks x)(hy:u_ ks y)(fx:tJ D N x)(fy:tJ D N' y):tJ D (N+N') (bL ks x y):=by
 obtain⟨S,M,_,_,h3,h4⟩:=hx.two hy;intro w hw;obtain⟨i,hi⟩:=List.mem_iff_getElem?.1 hw;obtain⟨k,a,b,a1,a2,a3,rfl⟩:=gu hi;exact UR (hs k (List.mem_of_getElem? a1)) (h3.2 i k a a1 a2) (h4.2 i k b a1 a3) (fx a (List.mem_of_getElem? a2)) (fy b (List.mem_of_getElem? a3))
theorem yj (hM:1<=M)(hx:gH S M ks x)(hy:u_ ks y)(fx:tJ D N x)(fy:tJ E N' y):tJ (D*E) (M*(N*N')) (bq x y):=by
 obtain⟨S',M',_,_,h3⟩:=hy;intro w hw;obtain⟨i,hi⟩:=List.mem_iff_getElem?.1 hw;obtain⟨a,b,a2,a3,rfl⟩:=dV hi;have hlt:i<ks.length:=by rw[<-hx.1];exact(bH a2)
 have a1:=List.getElem?_eq_getElem hlt;exact PY (hs _ (List.mem_of_getElem? a1)) hM (hx.2 i _ a a1 a2) (h3.2 i _ b a1 a3) (fx a (List.mem_of_getElem? a2)) (fy b (List.mem_of_getElem? a3))
theorem wL {T:Nat}(hx:u_ ks x)(fx:tJ D N x)(hD:0<D)(hDT:D<4294967296 ^ T)(hN:N<4294967296 ^ T):gH T 216 ks x:=by
 obtain⟨S,M,_,_,h⟩:=hx;exact⟨h.1,fun i k a hk ha=>L9 (hs k (List.mem_of_getElem? hk)) (h.2 i k a hk ha) (fx a (List.mem_of_getElem? ha)) hD hDT hN⟩
end lists
theorem Cv {a b:Int}{D c N:Nat}(hb:0<b)(hc:(c:Int)*b=D)(hN:a.natAbs*c<=N):Fr D N (qH a b):=by
 refine⟨a*c,?_,by rw[Int.natAbs_mul];simpa using hN⟩;have hb0:(b:Rat)≠0:=by
  intro h;have:=Rat.intCast_inj.1 (h.trans rfl:(b:Rat)=((0:Int):Rat));omega
 have hD:(D:Rat)=(c:Rat)*(b:Rat):=by
  have:((D:Int):Rat)=(((c:Int)*b:Int):Rat):=by rw[hc]
  rw[Rat.intCast_mul,Rat.intCast_natCast,Rat.intCast_natCast]at this;exact this
 rw[RL a b (by omega),hD,Rat.intCast_mul,Rat.intCast_natCast];have:(a:Rat) / (b:Rat)*(b:Rat)=(a:Rat):=Rat.div_mul_cancel hb0;grind
theorem NI (v:Int):Fr 6 36 (tH v):=by
 unfold tH;have h1:=Int.emod_nonneg v (show(13:Int)≠0 by omega);have h2:=Int.emod_lt_of_pos v (show(0:Int)<13 by omega);have h3:=Int.emod_nonneg (v.tdiv 13) (show(3:Int)≠0 by omega);have h4:=Int.emod_lt_of_pos (v.tdiv 13) (show(0:Int)<3 by omega);generalize v % 13=a,v.tdiv 13 % 3=b at*;have:b=0\/b=1\/b=2:=by omega
 rcases this with rfl|rfl|rfl
 ·exact Cv (c:=6) (by omega) (by omega) (by omega)
 ·exact Cv (c:=3) (by omega) (by omega) (by omega)
 ·exact Cv (c:=2) (by omega) (by omega) (by omega)
theorem UT (v:Int)(e:fE):Fr 6 64 (tot (yU v) e):=by
 have hc:∀ e,Fr 6 4 (tot (bV (qH (v % 5-2) 3)) e):=fun e=>by
  rw[yh];split
  ·exact Cv (c:=2) (by omega) (by omega) (by omega)
  ·exact Fr.zero _ _
 unfold yU;split
 ·rw[jB,lK];refine((hc e).add (M:=36) ?_).mono (by omega);split
  ·have:=UO (D:=1) (N:=1) (f:=tot (bV (tH v))) (E:=6) (M:=36) (fun e=>by
    rw[yh];split
    ·exact NI v
    ·exact Fr.zero _ _) e (a:=[(gN ((v.tdiv 10) % 3).toNat,1)]) (fun p hp=>by
    rw[List.mem_singleton]at hp;subst hp;exact Gl (Nat.le_refl _))
   simpa using this
  ·exact Fr.zero _ _
 ·exact(hc e).mono (by omega)
theorem Jn {k:Int}(hk:single k=true)(v:Int):L8 6 64 (Bz k v):=by
 rcases aL hk with rfl|rfl|rfl|rfl|rfl
 ·exact(NI v).mono (by omega)
 ·show L8 6 64 (if v % 11=10 then Sv.c true 0 else .c false (v % 11));split<;>trivial
 ·exact Cv (c:=1) (by omega) (by omega) (by omega)
 ·trivial
 ·exact UT v
theorem Cw {kk:Int}{ps:List Int}(h:aI kk ps=true)(v:Int):tJ 6 64 (q8 kk ps v):=by
 have hs:=aN h;unfold q8 dx at*;intro x hx
 by_cases h6:kk=6
 ·simp only[if_pos h6]at*;obtain⟨i,hi,rfl⟩:=List.mem_map.1 hx;have hi':=List.mem_range.1 hi;have hg:ps.getD i 0=ps[i]:=by rw[List.getD_eq_getElem?_getD,List.getElem?_eq_getElem hi'];rfl
  rw[hg];exact Jn (hs _ (List.getElem_mem hi')) _
 ·simp only[if_neg h6]at*;rw[List.mem_singleton]at hx;subst hx;exact Jn (hs kk (by simp)) v
end Fi.S
