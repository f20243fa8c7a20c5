import Derived.Test.YtkekcmgkpdkieaaGreatDoorDG
import Derived.Test.YtkekcmgkpdkieaaGreatDoorDC
set_option linter.unusedVariables false
set_option linter.unusedSimpArgs false
noncomputable section
namespace Fi.S
open Go Fi
set_option maxHeartbeats 8000000
section
variable {α:Type} {P:α->Prop} {pl tm:α->α->α} {z o:α}
def hSt (tm:α->α->α)(z:α)(s:Int)(v:List α)(q:Nat)(a:Ar α):α:=if a.l=s/\a.t.toNat=q then tm (v.getD a.f.toNat z) a.x else z
theorem oU {l:List α}(pz:P z)(h:∀ x ∈ l,P x)(i:Nat):P (l.getD i z):=by
 rw[Qh1];cases hi:l[i]? with
 | none=>exact pz
 | some x=>exact h x (Qa2 hi)
theorem Ls (A:Jl P pl tm z o)(s:Int){v:List α}(hv:∀ x ∈ v,P x)(q:Nat){a:Ar α}(ha:P a.x):P (hSt tm z s v q a):=by
 unfold hSt;split
 ·exact A.pt (oU A.pz hv _) ha
 ·exact A.pz
theorem ab2 (A:Jl P pl tm z o)(s:Int){v:List α}(hv:∀ x ∈ v,P x)(q:Nat):Add P pl (hSt tm z s v q):=by
 refine⟨fun a ha=>Ls A s hv q ha,fun a b he ha hb => ?_⟩;obtain⟨e1,e2,e3⟩:=he;unfold hSt;show(if a.l=s/\a.t.toNat=q then tm (v.getD a.f.toNat z) (pl a.x b.x) else z)=_;rw[<-e1,<-e2,<-e3];split
 ·rw[A.ait (oU A.pz hv _) ha hb]
 ·rw[A.zero A.pz]
theorem afM (A:Jl P pl tm z o)(s:Int){v out:List α}(hv:∀ x ∈ v,P x)(ho:∀ x ∈ out,P x){a:Ar α}(ha:P a.x):∀ x ∈ tZ pl tm z s v out a,P x:=by
 unfold tZ;split
 ·intro x hx;rcases Q40 hx with h|rfl
  ·exact ho x h
  ·exact A.pp (oU A.pz ho _) (A.pt (oU A.pz hv _) ha)
 ·exact ho
theorem Yk (A:Jl P pl tm z o)(s:Int){v:List α}(hv:∀ x ∈ v,P x){n:Nat}:∀ (l:List (Ar α)) (out:List α),PA P l->(∀ a ∈ l,a.t.toNat<n)->out.length=n->(∀ x ∈ out,P x) ->
  (∀ x ∈ l.foldl (tZ pl tm z s v) out,P x)/\∀ q,q<n->(l.foldl (tZ pl tm z s v) out).getD q z=pl (out.getD q z) (sm pl z (l.map (hSt tm z s v q)))
 | [],out,_,_,_,ho=>⟨ho,fun q _=>(A.zero (oU A.pz ho _)).symm⟩
 | a::l,out,hl,ht,hn,ho=>by
  have ha:=hl a aC;have hl':PA P l:=fun b hb=>hl b (by simp[hb])
  obtain⟨h1,h2⟩:=Yk A s hv l (tZ pl tm z s v out a) hl' (fun b hb=>ht b (by simp[hb])) (by rw[Et];exact hn) (afM A s hv ho ha);rw[Qk2];refine⟨h1,fun q hq => ?_⟩;have hm:∀ w ∈ l.map (hSt tm z s v q),P w:=fun w hw=>by
   obtain⟨b,hb,rfl⟩:=Qg1.1 hw;exact Ls A s hv q (hl' b hb)
  have px:=Ls A s hv q ha;rw[h2 q hq,Qd2,jG A px hm,<-A.assoc (oU A.pz ho _) px (Fp A hm)]
  congr 1
  unfold tZ hSt
  by_cases g:a.l=s
  ·rw[if_pos g]
   by_cases g2:a.t.toNat=q
   ·subst g2;rw[if_pos ⟨g,rfl⟩,Qh1,Qd0 ae];rfl
   ·rw[if_neg (fun h=>g2 h.2),A.zero (oU A.pz ho _),Qh1,Qb2 g2,<-Qh1]
  ·rw[if_neg g,if_neg (fun h=>g h.1),A.zero (oU A.pz ho _)]
theorem nQ (A:Jl P pl tm z o)(s:Int){v:List α}(hv:∀ x ∈ v,P x){n:Nat}{l:List (Ar α)}(hl:PA P l)(ht:∀ a ∈ l,a.t.toNat<n):(∀ x ∈ dU pl tm z n l s v,P x)/\∀ q,q<n->(dU pl tm z n l s v).getD q z=sm pl z (l.map (hSt tm z s v q)):=by
 obtain⟨h1,h2⟩:=Yk A s hv l (List.replicate n z) hl ht Q2 (fun x hx=>by rw[Xi2 hx];exact A.pz);refine⟨h1,fun q hq => ?_⟩;have hm:∀ w ∈ l.map (hSt tm z s v q),P w:=fun w hw=>by
  obtain⟨b,hb,rfl⟩:=Qg1.1 hw;exact Ls A s hv q (hl b hb)
 show(l.foldl (tZ pl tm z s v) (List.replicate n z)).getD q z=_;rw[h2 q hq,Qh1,Qu2,if_pos hq];exact A.zl (Fp A hm)
theorem Lt {l m:List α}{n:Nat}(hl:l.length=n)(hm:m.length=n)(h:∀ q,q<n->l.getD q z=m.getD q z):l=m:=by
 refine Xr1 fun q => ?_
 by_cases hq:q<n
 ·have:=h q hq;rw[getD_at (z:=z) ae,getD_at (z:=z) ae,this]
 ·rw[Qq0 ae,Qq0 ae]
variable {bD:α->Bool}
theorem Lu (A:Jl P pl tm z o)(hz:∀ x,P x->bD x=true->x=z)(s:Int){v:List α}(hv:∀ x ∈ v,P x){n:Nat}{l:List (Ar α)}(hl:PA P l)(ht:∀ a ∈ l,a.t.toNat<n):dU pl tm z n (dG pl bD l) s v=dU pl tm z n l s v:=by
 have hn:PA P (dG pl bD l):=fun a ha=>Gs A hl a (Qu0.1 ha).1
 have hnt:∀ a ∈ dG pl bD l,a.t.toNat<n:=fun a ha=>by
  obtain⟨b,hb,e1,e2,e3⟩:=(mY (pl:=pl) (l:=l) a).1 ⟨a,(Qu0.1 ha).1,rfl,rfl,rfl⟩;rw[<-e3];exact ht b hb
 refine Lt (z:=z) (f_ ..) (f_ ..) fun q hq => ?_
 rw[(nQ A s hv hn hnt).2 q hq,(nQ A s hv hl ht).2 q hq];refine Sq A (ab2 A s hv q) (fun a ha hi => ?_) hl;unfold hSt;split
 ·rw[hz _ ha hi,A.Qc (oU A.pz hv _)]
 ·rfl
theorem ac' (A:Jl P pl tm z o){n:Nat}{l:List (Ar α)}(hl:PA P l)(ht:∀ a ∈ l,a.t.toNat<n):∀ (w:List Int) {v:List α},(∀ x ∈ v,P x)->∀ x ∈ jD (dU pl tm z n l) v w,P x
 | [],_,hv=>hv
 | s::w,v,hv=>ac' A hl ht w (v:=dU pl tm z n l s v) (nQ A s hv hl ht).1
theorem Gz (A:Jl P pl tm z o)(hz:∀ x,P x->bD x=true->x=z){n:Nat}{l:List (Ar α)}(hl:PA P l)(ht:∀ a ∈ l,a.t.toNat<n):∀ (w:List Int) {v:List α},(∀ x ∈ v,P x)->jD (dU pl tm z n (dG pl bD l)) v w=jD (dU pl tm z n l) v w
 | [],_,_=>rfl
 | s::w,v,hv=>by
  show jD _ (dU pl tm z n (dG pl bD l) s v) w=jD _ (dU pl tm z n l s v) w;rw[Lu A hz s hv hl ht];exact Gz A hz hl ht w (nQ A s hv hl ht).1
theorem Qr (A:Jl P pl tm z o):∀ {l:List α},(∀ x ∈ l,x=z)->sm pl z l=z
 | [],_=>rfl
 | x::l,h=>by
  have hx:=h x aC;have hl:∀ y ∈ l,y=z:=fun y hy=>h y (by simp[hy])
  rw[jG A (by rw[hx];exact A.pz) (fun y hy=>by rw[hl y hy];exact A.pz),Qr A hl,hx,A.zero A.pz]
theorem Qt:∀ {m:List Bool} {v w:List α},m.length=v.length->m.length=w.length->(gu m v).zip (gu m w)=gu m (v.zip w)
 | [],v,w,_,_=>by simp[gu]
 | b::m,[],w,h,_=>by simp at h
 | b::m,x::v,[],_,h=>by simp at h
 | b::m,x::v,y::w,h1,h2=>by
  have:=Qt (m:=m) (v:=v) (w:=w) (by simpa using h1) (by simpa using h2);rw[X80,lW,lW,lW];cases b
  ·simpa using this
  ·simp[this]
theorem Yl (A:Jl P pl tm z o){β:Type}(h:β->α):∀ {m:List Bool} {l:List β},m.length=l.length->(∀ x ∈ l,P (h x))->(∀ (i:Nat) (x:β),l[i]?=some x->m[i]?=some false->h x=z)->sm pl z ((gu m l).map h)=sm pl z (l.map h)
 | [],[],_,_,_=>rfl
 | [],_::_,h1,_,_=>by simp at h1
 | b::m,[],h1,_,_=>by simp at h1
 | b::m,x::l,h1,h2,h3=>by
  have ih:=Yl A h (m:=m) (l:=l) (by simpa using h1) (fun y hy=>h2 y (by simp[hy])) (fun i y hy hm=>h3 (i+1) y (by simpa using hy) (by simpa using hm));have Zh:∀ w ∈ l.map h,P w:=fun w hw=>by
   obtain⟨y,hy,rfl⟩:=Qg1.1 hw;exact h2 y (by simp[hy])
  have RS:∀ w ∈ (gu m l).map h,P w:=fun w hw=>by
   obtain⟨y,hy,rfl⟩:=Qg1.1 hw;exact h2 y (by simp[BR hy])
  rw[lW,Qd2,jG A (h2 x aC) Zh];cases b with
  | true =>
   rw[if_pos rfl,Qd2,jG A (h2 x aC) RS,ih]
  | false =>
   rw[if_neg aC,ih,h3 0 x rfl rfl,A.zl (Fp A Zh)]
section trim
variable (A:Jl P pl tm z o) (hz:∀ x,P x->bD x=true->x=z) {n:Nat} {aK fin:List α} {l:List (Ar α)} (h1:aK.length=n) (h2:fin.length=n) (p1:∀ x ∈ aK,P x) (p2:∀ x ∈ fin,P x) (hl:PA P l) (hin:∀ a ∈ l,(0<=a.f/\a.f<n)/\(0<=a.t/\a.t<n))
include A hz h1 h2 p1 p2 hl hin
omit hz h1 h2 p1 p2 in
theorem IJ:∀ (w:List Int) (v:List α),v.length=n->(∀ x ∈ v,P x)->(∀ p,p<n->¬ yE (nY bD aK) (mZ l) p->v.getD p z=z)->∀ p,p<n->¬ yE (nY bD aK) (mZ l) p->(jD (dU pl tm z n l) v w).getD p z=z
 | [],v,_,_,hv=>hv
 | s::w,v,hvl,hvp,hv=>by
  have ht:∀ a ∈ l,a.t.toNat<n:=fun a ha=>by have:=(hin a ha).2;omega
  obtain⟨k1,k2⟩:=nQ A s hvp hl ht;refine IJ w (dU pl tm z n l s v) (f_ ..) k1 fun p hp hr => ?_
  rw[k2 p hp];refine Qr A fun x hx => ?_
  obtain⟨a,ha,rfl⟩:=Qg1.1 hx;unfold hSt;split
  ·rename_i g;have g2:=(hin a ha).1;rw[hv a.f.toNat ae (fun h=>hr (.step (uV.2 ⟨a,ha,rfl,g.2⟩) h)),A.zt (hl a ha)]
  ·rfl
omit hz p1 p2 in
theorem Ym:∀ (w:List Int) (v:List α),v.length=n->(∀ x ∈ v,P x)->(∀ p,p<n->¬ yE (nY bD aK) (mZ l) p->v.getD p z=z) ->
  jD (dU pl tm z (cnt (vz bD aK fin l)) (oF (vz bD aK fin l) l)) (gu (vz bD aK fin l) v) w=gu (vz bD aK fin l) (jD (dU pl tm z n l) v w)
 | [],_,_,_,_=>rfl
 | s::w,v,hvl,hvp,hv=>by
  have ht:∀ a ∈ l,a.t.toNat<n:=fun a ha=>by have:=(hin a ha).2;omega
  obtain⟨k1,k2⟩:=nQ A s hvp hl ht;have hd:=IJ A hl hin [s] v hvl hvp hv;have ih:=Ym w (dU pl tm z n l s v) (f_ ..) k1 hd;have hul:(vz bD aK fin l).length=n:=by rw[qV bD ae l,h1]
  have ui:∀ {s:Nat},(vz bD aK fin l)[s]?=some true↔s<n/\yE (nY bD aK) (mZ l) s/\yE (nY bD fin) (T9 l) s:=fun {s}=>BS h1 h2
  generalize vz bD aK fin l=u at*;show jD _ (dU pl tm z (cnt u) (oF u l) s (gu u v)) w=gu u (jD _ (dU pl tm z n l s v) w);rw[<-ih]
  congr 1
  have hpl:PA P (oF u l):=fun a ha=>by
   obtain⟨b,hb,_,rfl⟩:=yK ha;exact hl b hb
  have hpt:∀ a ∈ oF u l,a.t.toNat<cnt u:=fun a ha=>by
   obtain⟨b,hb,hs,rfl⟩:=yK ha;have:=IG (jC.1 hs).2;show(toM u b.t.toNat:Int).toNat<_;omega
  have hsv:∀ x ∈ gu u v,P x:=fun x hx=>hvp x (BR hx)
  refine Lt (z:=z) (f_ ..) (by rw[uU (by rw[f_];exact hul)]) fun k hk => ?_
  obtain⟨q,hq,rfl⟩:=yJ hk;obtain⟨q1,q2,q3⟩:=ui.1 hq;rw[(nQ A s hsv hpl hpt).2 _ hk,Qh1,IE (by rw[f_];exact hul) hq,<-Qh1,k2 q q1];unfold oF;rw[Q60];rw[show(l.filter (stay u)).map (hSt tm z s (gu u v) (toM u q) ∘ IC u)=(l.filter (stay u)).map (hSt tm z s v q) from ?_]
  ·refine Iy A (fun a ha=>Ls A s hvp q (hl a ha)) (fun a ha hs => ?_);unfold hSt;split
   ·rename_i g;obtain⟨i1,i2⟩:=hin a ha;have hr:¬ yE (nY bD aK) (mZ l) a.f.toNat:=fun h=>by
     have m1:=ui.2 ⟨show a.f.toNat<n by omega,h,.step (uW.2 ⟨a,ha,g.2,rfl⟩) q3⟩;have m2:u[a.t.toNat]?=some true:=by rw[g.2];exact hq
     rw[jC.2 ⟨m1,m2⟩]at hs;cases hs
    rw[hv a.f.toNat ae hr,A.zt (hl a ha)]
   ·rfl
  ·refine Xb1 fun a ha => ?_
   obtain⟨m1,m2⟩:=jC.1 (Qu0.1 ha).2;show(if a.l=s/\(toM u a.t.toNat:Int).toNat=toM u q then tm ((gu u v).getD (toM u a.f.toNat:Int).toNat z) a.x else z)=_;unfold hSt;rw[Q42,Q42]
   by_cases g:a.l=s/\a.t.toNat=q
   ·rw[if_pos g,if_pos ⟨g.1,by rw[g.2]⟩,Qh1,IE ae m1,<-Qh1]
   ·rw[if_neg g,if_neg (fun h=>g ⟨h.1,abW m2 hq h.2⟩)]
omit A p2 hl hin in
theorem Yn:∀ p,p<n->¬ yE (nY bD aK) (mZ l) p->aK.getD p z=z:=fun p hp hr=>by
 have g:=getD_at (z:=z) (show p<aK.length by omega);refine hz _ (p1 _ (Qa2 g)) ?_;cases hq:bD (aK.getD p z) with
 | true=>rfl
 | false =>
  refine absurd (.base ?_) hr;unfold nY;rw[Qc0,g];show some (!bD (aK.getD p z))=some true;rw[hq];rfl
theorem SS (w:List Int):t_ pl tm z (jD (dU pl tm z (cnt (vz bD aK fin l)) (oF (vz bD aK fin l) l)) (gu (vz bD aK fin l) aK) w) (gu (vz bD aK fin l) fin)=t_ pl tm z (jD (dU pl tm z n l) aK w) fin:=by
 have ht:∀ a ∈ l,a.t.toNat<n:=fun a ha=>by have:=(hin a ha).2;omega
 have hd0:=Yn (l:=l) hz h1 h2 p1;have hd:=IJ A hl hin w aK h1 p1 hd0;have hP:=ac' A hl ht w p1;have hL:=Eu (mZ:=dU pl tm z n l) (fun s v=>f_ ..) h1 w;rw[Ym A h1 h2 hl hin w aK h1 p1 hd0];have hul:(vz bD aK fin l).length=n:=by rw[qV bD ae l,h1]
 have ui:∀ {s:Nat},(vz bD aK fin l)[s]?=some true↔s<n/\yE (nY bD aK) (mZ l) s/\yE (nY bD fin) (T9 l) s:=fun {s}=>BS h1 h2
 generalize vz bD aK fin l=u,jD (dU pl tm z n l) aK w=F at*;have e:∀ a b:List α,t_ pl tm z a b=sm pl z ((a.zip b).map fun p=>tm p.1 p.2):=fun a b=>by
  unfold t_ sm;rw[List.foldl_map]
 rw[e,e,Qt ae ae];refine Yl A (fun p:α × α=>tm p.1 p.2) (by rw[Xu1];omega) (fun x hx=>A.pt (hP _ (List.of_mem_zip hx).1) (p2 _ (List.of_mem_zip hx).2)) fun i x hx hm => ?_
 have hi:i<n:=by have:=(aU hm);omega
 have g1:=getD_at (z:=z) (show i<F.length by omega);have g2:=getD_at (z:=z) (show i<fin.length by omega);rw[Q00]at hx;obtain⟨x1,x2⟩:=hx;rw[g1]at x1;rw[g2]at x2;obtain⟨a,b⟩:=x;cases x1;cases x2;show tm (F.getD i z) (fin.getD i z)=z
 by_cases hr:yE (nY bD aK) (mZ l) i
 ·have:¬ yE (nY bD fin) (T9 l) i:=fun h=>by
   rw[ui.2 ⟨hi,hr,h⟩]at hm;cases hm
  have hf:fin.getD i z=z:=by
   refine hz _ (p2 _ (Qa2 g2)) ?_;cases hq:bD (fin.getD i z) with
   | true=>rfl
   | false =>
    refine absurd (.base ?_) this;unfold nY;rw[Qc0,g2];show some (!bD (fin.getD i z))=some true;rw[hq];rfl
  rw[hf,A.Qc (hP _ (Qa2 g1))]
 ·rw[hd i hi hr,A.zt (p2 _ (Qa2 g2))]
end trim
end
end Fi.S
noncomputable section
namespace Fi.S
open Go Fi
set_option maxHeartbeats 8000000
set_option maxRecDepth 10000
section vals
variable {kk:Int} {ps:List Int} (hv:aM kk ps=true)
include hv
abbrev Mv (kk:Int)(ps:List Int)(D N:Nat)(x:List Sv):Prop:=Fq (dN kk ps) x/\Fs D N x
theorem BU (D N:Nat):Mv kk ps D N (bY kk ps):=⟨(Oq (aY hv)).pz,K7 (aY hv) _ _⟩
theorem BV {D N:Nat}{l:List (List Sv)}(h:∀ x ∈ l,Mv kk ps D N x)(i:Nat):Mv kk ps D N (l.getD i (bY kk ps)):=oU (BU hv D N) h i
theorem yL {i:Nat}{x y:List Sv}(hx:Mv kk ps (6 ^ (i+1)) (bN i) x)(hy:Wt kk ps y):Mv kk ps (6 ^ (i+1+1)) (20*(640*bN i)) (bS x y):=by
 have A:=Oq (aY hv);refine⟨A.pt hx.1 hy.gd,?_⟩;rw[A.XA hx.1 hy.gd,Qn2 6 (i+1),Ql2];exact Su (aY hv) (M:=20) ae hy.1 hx.1 hy.2 hx.2
theorem GA {i:Nat}(hi:i<=4){x y:List Sv}(hx:Mv kk ps (6 ^ (i+1)) (bN i) x)(hy:Wt kk ps y):Ca E1 21 [.d (aV kk ps),.d (bV kk x).d,.d (bV kk y).d] (.d (bV kk (bS x y)).d,none):=by
 have hb:=Qf hi;have hd:=XF (show i+1<=6 by omega);have hB:bN 4<4294967296 ^ 3:=dw;exact Sn hv (S:=3) (M:=216) (N:=20) ae ae ae (yC (aY hv) hx.1 hx.2 (Qs0 ae) ae ae) hy.1
theorem IK {i:Nat}{v:List (List Sv)}(hx:∀ x ∈ v,Mv kk ps (6 ^ (i+1)) (bN i) x)(s:Int):∀ (l:List (Ar (List Sv))) (out:List (List Sv)) (c:Nat),(∀ a ∈ l,Wt kk ps a.x)->(∀ x ∈ out,Mv kk ps (6 ^ (i+1+1)) (c*(20*(640*bN i))) x) ->
  ∀ x ∈ l.foldl (tZ (bO (dN kk ps)) bS (bY kk ps) s v) out,Mv kk ps (6 ^ (i+1+1)) ((c+l.length)*(20*(640*bN i))) x
 | [],out,c,_,ho=>ho
 | a::l,out,c,hl,ho=>by
  rw[Qk2,show c+(a::l).length=(c+1)+l.length by simp;omega];refine IK hx s l _ (c+1) (fun b hb=>hl b (by simp[hb])) ?_;unfold tZ;have A:=Oq (aY hv);split
  ·intro x hxm;rcases Q40 hxm with h|rfl
   ·exact⟨(ho x h).1,(ho x h).2.mono (Qf0 _ ae)⟩
   ·have t1:=yL hv (BV hv hx a.f.toNat) (hl a aC);have t2:=BV hv ho a.t.toNat;refine⟨A.pp t2.1 t1.1,?_⟩;rw[Qr0,Nat.one_mul];exact yB (aY hv) t2.1 t1.1 t2.2 t1.2
  ·intro x h;exact⟨(ho x h).1,(ho x h).2.mono (Qf0 _ ae)⟩
theorem IL {n:Nat}{l:List (Ar (List Sv))}(hl:∀ a ∈ l,Wt kk ps a.x)(hn:l.length<=10):∀ (w:List Int) (i:Nat) (v:List (List Sv)),(∀ x ∈ v,Mv kk ps (6 ^ (i+1)) (bN i) x)->∀ x ∈ jD (dU (bO (dN kk ps)) bS (bY kk ps) n l) v w,Mv kk ps (6 ^ (i+w.length+1)) (bN (i+w.length)) x
 | [],_,_,h=>h
 | s::w,i,v,h=>by
  have h1:=IK hv h s l (List.replicate n (bY kk ps)) 0 hl (fun x hx=>by rw[Xi2 hx];exact BU hv _ _);rw[show i+(s::w).length=(i+1)+w.length by simp;omega];refine IL hl hn w (i+1) _ fun x hx=>⟨(h1 x hx).1,(h1 x hx).2.mono ?_⟩
  show(0+l.length)*_<=10*_;exact Qf0 _ ae
theorem Qu {i:Nat}:∀ (v w:List (List Sv)),(∀ x ∈ v,Mv kk ps (6 ^ (i+1)) (bN i) x)->(∀ x ∈ w,Wt kk ps x)->∀ (c:Nat) (acc:List Sv),Mv kk ps (6 ^ (i+1+1)) (c*(20*(640*bN i))) acc ->
  Mv kk ps (6 ^ (i+1+1)) ((c+v.length)*(20*(640*bN i))) ((v.zip w).foldl (fun acc p=>bO (dN kk ps) acc (bS p.1 p.2)) acc)
 | [],w,_,_,c,acc,h=>by simpa using h
 | x::v,[],_,_,c,acc,h=>⟨h.1,h.2.mono (Qf0 _ ae)⟩
 | x::v,y::w,hx,hy,c,acc,h=>by
  have A:=Oq (aY hv);have t1:=yL hv (hx x aC) (hy y aC);rw[X80,Qk2,show c+(x::v).length=(c+1)+v.length by simp;omega];refine Qu v w (fun z hz=>hx z (by simp[hz])) (fun z hz=>hy z (by simp[hz])) (c+1) _ ⟨A.pp h.1 t1.1,?_⟩;rw[Qr0,Nat.one_mul];exact yB (aY hv) h.1 t1.1 h.2 t1.2
end vals
section weight
variable {kk:Int} {ps:List Int} (hv:aM kk ps=true) {sy n:Nat} {aK fin:List (List Sv)} (M:Made kk ps sy n aK fin) {l:List (Ar (List Sv))} (hl:Ow kk ps sy n l) (hn:n<=4) (w:List Int) (hw:w.length<=4) (hws:∀ x ∈ w,1<=x/\x<=(sy:Int))
include hv M hl hn hw hws
theorem Ev:Ca E1 1530 [.d (tV kk ps sy n (aK.map (bV kk)) (fin.map (bV kk)) (bV kk) l),.d (.s 1 (LK .i64 w))] (.d (.t [(bV kk (t_ (bO (dN kk ps)) bS (bY kk ps) (jD (dU (bO (dN kk ps)) bS (bY kk ps) n l) aK w) fin)).d,vI 0]),none) /\
  iB 3 216 (dN kk ps) (t_ (bO (dN kk ps)) bS (bY kk ps) (jD (dU (bO (dN kk ps)) bS (bY kk ps) n l) aK w) fin):=by
 have e1:(aK.map (bV kk)).map W.d=aK.map fun x=>(bV kk x).d:=by simp[Xm0]
 have e2:(fin.map (bV kk)).map W.d=fin.map fun x=>(bV kk x).d:=by simp[Xm0]
 have h1:=(Ep hv M hl).2;have hlen:=hl.1;have m1:=M.n1;have m2:=M.li;have m3:=M.lf;have h2:=KU (XN hv) l ae ae (fun a ha=>(hl.2 a ha).1.gf);have h4:=abp (XN hv) sy n aK fin l (tH hv) ae ae ae ae (fun x hx=>(M.wi x hx).gf) (fun x hx=>(M.wf x hx).gf) (fun a ha=>(hl.2 a ha).1.gf);unfold tV at h1 h4 ⊢;rw[e1,e2]at h1 h4 ⊢;have h3:=Yi kk ps sy n (aK.map fun x=>(bV kk x).d) (fin.map fun x=>(bV kk x).d) _ _ (by have:=zP (pl:=bO (dN kk ps)) (bD:=lV kk ps) l 10 hlen;unfold dG at this;omega) h2 (fun a ha=>by
  obtain⟨b,hb,q1,q2,q3⟩:=(mY (pl:=bO (dN kk ps)) (l:=l) a).1 ⟨a,(Qu0.1 ha).1,rfl,rfl,rfl⟩;have:=(hl.2 b hb).2.2.1;omega)
 have hck:=SQ kk ps sy n (aK.map fun x=>(bV kk x).d) (fin.map fun x=>(bV kk x).d) (l.map (Ar.d (bV kk))) (LK .i64 w) h1 h3 (Yj w sy (by have:=M.s1;omega) ae hws);have hB:4*(20*(640*bN 4))<4294967296 ^ 3:=dw;have hv0:∀ x ∈ aK,Mv kk ps (6 ^ (0+1)) (bN 0) x:=fun x hx=>⟨(M.wi x hx).gd,(M.wi x hx).2⟩
 have hA:∀ a ∈ l,Wt kk ps a.x:=fun a ha=>(hl.2 a ha).1
 have hz:=Ih hv;have hin:∀ a ∈ l,(0<=a.f/\a.f<n)/\(0<=a.t/\a.t<n):=fun a ha=>⟨(hl.2 a ha).2.1,(hl.2 a ha).2.2.2⟩
 have hf:=Ox (e:=bV kk) kk ps sy n aK (fin.map fun x=>(bV kk x).d) (l.map (Ar.d (bV kk))) _ _ w ae (dU (bO (dN kk ps)) bS (bY kk ps) n l) hck h4 (fun j s hj=>by
  have hjw:=(aU hj)
  have hvv:=IL hv (n:=n) hA hlen (w.take j) 0 aK hv0;have hvl:=Eu (mZ:=dU (bO (dN kk ps)) bS (bY kk ps) n l) (fun s v=>f_ ..) m2 (w.take j);have hi4:0+(w.take j).length<=3:=by rw[Qk0];omega
  generalize jD (dU (bO (dN kk ps)) bS (bY kk ps) n l) aK (w.take j)=v,0+(w.take j).length=i at*;have hb:=Qf (show i<=4 by omega);have hb2:=Qf (show i+1<=4 by omega);have hT:10*(20*(640*bN i))<=bN 4:=hb2;have hd2:=XF (show i+1+1<=6 by omega);refine ab1 (e:=bV kk) kk ps sy n ae _ _ l ae hin v hvl s _ _ _ hz fun k a hk hs => ?_
  have ha:=hA a (Qa2 hk);have hkl:(l.take k).length<=10:=by rw[Qk0];omega
  have t1:=BV hv hvv a.f.toNat;have t2:=yL hv t1 ha;have t3:=BV hv (IK hv hvv s (l.take k) (List.replicate n (bY kk ps)) 0 (fun b hb=>hA b (Qo1 hb)) (fun x hx=>by rw[Xi2 hx];exact BU hv _ _)) a.t.toNat;have hk2:(0+(l.take k).length)*(20*(640*bN i))<=10*(20*(640*bN i)):=Qf0 _ ae;exact⟨GA hv ae t1 ha,K9 hv (Qs0 ae) ae ae ae t3.1 t3.2 t2.1 t2.2⟩)
 have hvv:=IL hv (n:=n) hA hlen w 0 aK hv0;have hvl:=Eu (mZ:=dU (bO (dN kk ps)) bS (bY kk ps) n l) (fun s v=>f_ ..) m2 w;have hi4:0+w.length<=4:=ae;generalize jD (dU (bO (dN kk ps)) bS (bY kk ps) n l) aK w=v,0+w.length=i at*;have hb:=Qf hi4;have hd2:=XF (show i+1+1<=6 by omega);have hT:4*(20*(640*bN i))<=4*(20*(640*bN 4)):=Qz1 _ (Qz1 _ (Qz1 _ hb));have dv:∀ j,Mv kk ps (6 ^ (i+1+1)) (4*(20*(640*bN i))) (t_ (bO (dN kk ps)) bS (bY kk ps) (v.take j) (fin.take j)):=fun j=>by
  have:=Qu hv (v.take j) (fin.take j) (fun x hx=>hvv x (Qo1 hx)) (fun x hx=>M.wf x (Qo1 hx)) 0 (bY kk ps) (BU hv _ _);refine⟨this.1,this.2.mono (Qf0 _ ?_)⟩;rw[Qk0];omega
 have hd:=afK (e:=bV kk) kk ps v fin n ae hvl m3 (bO (dN kk ps)) bS (bY kk ps) hz (fun j x y hx hy=>by
  have t1:=hvv x (Qa2 hx);have t0:=M.wf y (Qa2 hy);have t2:=yL hv t1 t0;have t3:=dv j;exact⟨GA hv hi4 t1 t0,K9 hv (Qs0 ae) ae ae ae t3.1 t3.2 t2.1 t2.2⟩)
 have t3:=dv n;rw[Qe0 ae,Qe0 ae]at t3;exact⟨Oy kk ps sy n _ _ _ _ _ _ hf hd,yC (aY hv) t3.1 t3.2 (Qs0 ae) ae ae⟩
end weight
end Fi.S
noncomputable section
namespace Fi.S
open Go Fi
set_option maxHeartbeats 8000000
set_option maxRecDepth 10000
section plain
variable {α:Type} {pl:α->α->α} {bD:α->Bool}
theorem IM {x:Ar α}:∀ {l:List (Ar α)},(∀ a ∈ l,iH x a)->aZ pl x l=x::l
 | [],_=>rfl
 | a::l,h=>by
  have h1:=h a aC;rw[aZ,if_neg (uS h1),if_neg (KM h1)]
variable {m:List Bool}
theorem ab3 {a b:Ar α}(h:mF a b):stay m a=stay m b:=by
 obtain⟨h1,_,h3⟩:=h;unfold stay;rw[h1,h3]
theorem Yo {a b:Ar α}(ha:stay m a=true)(hb:stay m b=true)(pa:0<=a.f/\0<=a.t)(pb:0<=b.f/\0<=b.t)(h:iH a b):iH (IC m a) (IC m b):=by
 obtain⟨f1,t1⟩:=jC.1 ha;show(toM m a.f.toNat:Int)<toM m b.f.toNat\/(toM m a.f.toNat:Int)=toM m b.f.toNat/\(a.l<b.l\/a.l=b.l/\(toM m a.t.toNat:Int)<toM m b.t.toNat)
 rcases h with h|⟨h,h'⟩
 ·have:=kV (m:=m) (show a.f.toNat<b.f.toNat by omega) f1;exact .inl ae
 ·refine .inr ⟨by rw[h],?_⟩;rcases h' with h'|⟨h',h''⟩
  ·exact .inl h'
  ·have:=kV (m:=m) (show a.t.toNat<b.t.toNat by omega) t1;exact .inr ⟨h',ae⟩
theorem Yp {a b:Ar α}(h:mF a b):mF (IC m a) (IC m b):=by
 obtain⟨h1,h2,h3⟩:=h;show(toM m a.f.toNat:Int)=toM m b.f.toNat/\a.l=b.l/\(toM m a.t.toNat:Int)=toM m b.t.toNat;rw[h1,h2,h3];exact⟨rfl,rfl,rfl⟩
abbrev Pos (l:List (Ar α)):Prop:=∀ a ∈ l,0<=a.f/\0<=a.t
theorem lY (a:Ar α)(l:List (Ar α)):oF m (a::l)=if stay m a then IC m a::oF m l else oF m l:=by
 unfold oF;cases h:stay m a with
 | true=>rw[Q72 h];rfl
 | false=>rw[Q71 (by simp[h])];rfl
theorem Qv {x:Ar α}(px:0<=x.f/\0<=x.t):∀ {l:List (Ar α)},zT l->Pos l->oF m (aZ pl x l)=if stay m x then aZ pl (IC m x) (oF m l) else oF m l
 | [],_,_=>by
  show oF m [x]=_;rw[lY];split<;>rfl
 | y::l,hs,hp=>by
  obtain⟨s1,s2⟩:=Qn1.1 hs;have py:=hp y aC;have hp':Pos l:=fun a ha=>hp a (by simp[ha])
  have ih:=Qv (x:=x) px s2 hp';rw[lY,aZ]
  by_cases h1:iH y x
  ·rw[if_pos h1,lY,ih];cases hx:stay m x with
   | false=>simp
   | true =>
    cases hy:stay m y with
    | false=>simp
    | true =>
     simp only[if_true];rw[aZ,if_pos (Yo hy hx py px h1)]
  ·rw[if_neg h1]
   by_cases h2:mF y x
   ·rw[if_pos h2,lY,show stay m (jf pl y x)=stay m y from rfl,ab3 h2];cases hx:stay m x with
    | false=>simp
    | true =>
     simp only[if_true];rw[aZ,if_neg (tO (Yp h2)),if_pos (Yp h2)];rfl
   ·rw[if_neg h2,lY,lY];have hlt:iH x y:=by
     rcases iY y x with g|g|g
     ·exact absurd g h1
     ·exact absurd g h2
     ·exact g
    cases hx:stay m x with
    | false=>simp
    | true =>
     simp only[if_true];symm;refine IM fun a ha => ?_
     have key:∀ b ∈ y::l,stay m b=true->iH (IC m x) (IC m b):=fun b hb hsb=>by
      refine Yo hx hsb px (hp b hb) ?_;rcases Qj0.1 hb with rfl|hb
      ·exact hlt
      ·exact Gj hlt (s1 b hb)
     rw[<-lY]at ha;obtain⟨b,hb,hsb,rfl⟩:=yK ha;exact key b hb hsb
theorem Oz {x:Ar α}(px:0<=x.f/\0<=x.t){l:List (Ar α)}(h:Pos l):Pos (aZ pl x l):=fun a ha=>by
 rcases wK ha with ⟨e1,_,e3⟩|⟨b,hb,e1,_,e3⟩
 ·rw[e1,e3];exact px
 ·rw[<-e1,<-e3];exact h b hb
theorem Lv {l:List (Ar α)}(h:Pos l):oF m (bX pl l)=bX pl (oF m l):=by
 have key:∀ (l p:List (Ar α)),Pos l->zT p->Pos p->oF m (l.foldl (fun p x=>aZ pl x p) p)=(oF m l).foldl (fun p x=>aZ pl x p) (oF m p):=by
  intro l
  induction l with
  | nil=>intro p _ _ _;rfl
  | cons x l ih =>
   intro p hl hs hp;have px:=hl x aC;rw[Qk2,ih _ (fun a ha=>hl a (by simp[ha])) (wL x hs) (Oz px hp),Qv px hs hp,lY];cases stay m x<;>simp
 exact key l [] h List.Pairwise.nil (fun a ha=>by cases ha)
theorem SV {l:List (Ar α)}(h:Pos l):dG pl bD (oF m l)=oF m (dG pl bD l):=by
 show(bX pl (oF m l)).filter (fun a => !bD a.x)=oF m ((bX pl l).filter fun a => !bD a.x);rw[<-Lv h];unfold oF;rw[List.filter_map,X72,X72]
 congr 1
 refine List.filter_congr fun a _ => ?_
 show(!bD a.x&&stay m a)=(stay m a && !bD a.x)
 rw[Bool.and_comm]
end plain
def Yq (w us:List D)(j:Nat)(t:FV)(L:List ai):St :=
 (st0 [.u,.u,.u,.u,.u,rL 1,.d (.s 1 w),rL 2,.u,.u,.u,.d (.s 1 us),.u,dI j,.u,.u,.u,.u,.u,t,.u] L)
def tsL:aG:=f1502.body.r.r.r.r.r.r.r.l.r.bl.lp
theorem ab4 (w:List D)(n:Nat)(hn:n<=1000000)(L:List ai):Ex E1 (.loop tsL) (Yq w (dW (List.replicate n true)) 0 .u L) (.exit 0,Yq w (dW (List.replicate n true)) n (dB false) L):=by
 have hl:(dW (List.replicate n true)).length=n:=by rw[qW,Q2]
 obtain⟨r,h3,h4⟩:=Ex.inv (E:=E1) (b:=tsL) (fun j:Nat=>Yq w (dW (List.replicate n true)) j .u L) (fun j=>n-j) (fun j=>j<=n) (fun r=>r=(.exit 0,Yq w (dW (List.replicate n true)) n (dB false) L)) (fun j hj=>by
  rcases Qg0 j n with h|h
  ·have e1:(dW (List.replicate n true))[j]?=some (vB true):=yG (by rw[Qu2,if_pos h]);have i1:=idx e1;have hj1:j<(dW (List.replicate n true)).length:=ae;have hj0:(0:Int)<=(j:Int):=ae;have aS:ak .i64 ((j:Int)+1)=(j:Int)+1:=wrap_i64 ae;have hk1:((j+1:Nat):Int)=(j:Int)+1:=ae;have hjl:(j:Int)<(n:Int):=ae;refine .inl ⟨j+1,Ex.of (n:=100) ?_,ae,ae⟩;unfold Yq;rw[hk1];generalize dW (List.replicate n true)=us at*;simp[tsL,f1502,hj0,aS,hjl,hj1,hl,e1,i1]
  ·obtain rfl:j=n:=ae;refine .inr ⟨_,Ex.of (n:=60) ?_,aC,rfl⟩;unfold Yq;generalize dW (List.replicate j true)=us at*;simp[tsL,f1502,hl]) 0 ae
 exact h4 ▸ h3
theorem OA (aw:Ca E1 1504 [] (dB true,none))(k:Int)(em:Bool)(st:Int)(li lf la word x:List Int)(kk:Int)(ps:List Int)(n:Int)(aK fin es:List D)(c:Nat)(hc:c<=64)(Lx yj es2:List D)(q:W)
  (h1:Ca E1 15 [dI k] (.d (aV kk ps),none)) (h2:Ca E1 1028 [.d (moD st li lf la),.d (aV kk ps),dI 2,dI 4] (.d (iD kk ps 2 n aK fin es),none))
  (h3:Ca E1 1018 [.d (.s 1 (LK .i64 word)),dI 2,dI 4] (.d (.s 1 (LK .i64 x)),none))
  (h4:Ca E1 1505 [.d (iD kk ps 2 n aK fin es)] (.d (.t [iD kk ps 2 c Lx yj es2,vI 0]),none)) (h5:Ca E1 1505 [.d (iD kk ps 2 c Lx yj es2)] (.d (.t [iD kk ps 2 c Lx yj es2,vI 0]),none))
  (h6:Ca E1 1506 [.d (iD kk ps 2 c Lx yj es2)] (.d (.t [.s 1 (dW (List.replicate c true)),vI 0]),none)) (h7:Ca E1 1014 [.d (iD kk ps 2 c Lx yj es2),.d (iD kk ps 2 c Lx yj es2)] (dB true,none))
  (h8:Ca E1 1530 [.d (iD kk ps 2 n aK fin es),.d (.s 1 (LK .i64 x))] (.d (.t [q.d,vI 0]),none)) (h9:Ca E1 1530 [.d (iD kk ps 2 c Lx yj es2),.d (.s 1 (LK .i64 x))] (.d (.t [q.d,vI 0]),none))
  (h10:Ca E1 12 [.d q.d,.d q.d] (dB true,none)) :
  Ca E1 1502 [dI k,.d (.a [vI st,.s 1 (LK .i64 li),.s 1 (LK .i64 lf),.s 1 (LK .i64 la),vB em]),.d (.s 1 (LK .i64 word))] (dB true,none):=by
 obtain⟨K,hK,t0,t1,t2,t3,t4,t5,t6,t7,t8,t9,PI⟩:=(aw.j (h1.j (h2.j (h3.j (h4.j (h5.j (h6.j (h7.j (h8.j (h9.j h10.any)))))))))).at 0;clear h1 h2 h3 h4 h5 h6 h7 h8 h9 h10 aw hK;have hL:=ab4 (LK .i64 x) c ae;have hul:(dW (List.replicate c true)).length=c:=by rw[qW,Q2]
 obtain⟨qs',ql1,ql2,qc,qb,qu,qp,qq,eq⟩:=q.aP;rw[eq]at t8 t9 PI;obtain⟨wb,hwb⟩:∃ wb:ai,wb=.box ((wD qs' ql1 ql2 qc qb qu qp qq).cells.map .d):=⟨_,rfl⟩
 obtain⟨ab,hab⟩:∃ ab,ab=aX kk ps 2 n aK fin es:=⟨_,rfl⟩
 obtain⟨bb,hbb⟩:∃ bb,bb=aX kk ps 2 c Lx yj es2:=⟨_,rfl⟩
 generalize dW (List.replicate c true)=us at*;have sA:Ex E1 f1502.body.l (st0 (dI k::.d (.a [vI st,.s 1 (LK .i64 li),.s 1 (LK .i64 lf),.s 1 (LK .i64 la),vB em])::.d (.s 1 (LK .i64 word))::agO) [])
   (.norm,(st0 (dI k::.u::.d (.s 1 (LK .i64 word))::rL 0::Zq) [.box [dI st,.d (.s 1 (LK .i64 li)),.d (.s 1 (LK .i64 lf)),.d (.s 1 (LK .i64 la)),dB em]])):=by
  apply e6;clear t0 t1 t2 t3 t4 t5 t6 t7 t8 t9 PI hL;simp[f1502]
 have sB := nx sA f1502.body.r.l (st0 (dI k::.u::.d (.s 1 (LK .i64 word))::rL 0::Zq) [dM st li lf la]) (by
  apply e6;clear t0 t1 t2 t3 t4 t5 t6 t7 t8 t9 PI hL sA;unfold dM;simp[f1502])
 have sC := nx sB f1502.body.r.r.l (st0 (.u::.u::.u::.u::.u::rL 1::.d (.s 1 (LK .i64 x))::G9) [dM st li lf la,ab]) (by
  refine Ex.of (n:=K+100) ?_;clear t0 t4 t5 t6 t7 t8 t9 PI hL sA sB;rw[hab];unfold dM aX;unfold moD aV iD at*;generalize LK .i64 ps=x4,LK .i64 x=x6 at*;simp (maxSteps:=400000) [f1502,t1,t2,t3])
 generalize dM st li lf la=mb at*;have sD:Ex E1 f1502.body.r.r.r.l (st0 (.u::.u::.u::.u::.u::rL 1::.d (.s 1 (LK .i64 x))::G9) [mb,ab])
   (.norm,(st0 (.u::.u::.u::.u::.u::rL 1::.d (.s 1 (LK .i64 x))::rL 2::dI 0::BZ) [mb,ab,bb])):=by
  refine Ex.of (n:=K+100) ?_;clear t0 t1 t2 t3 t5 t6 t7 t8 t9 PI hL sA sB sC;rw[hab,hbb];unfold aX;unfold iD at*;generalize LK .i64 ps=x4,LK .i64 x=x6 at*;simp (maxSteps:=400000) [f1502,t4]
 have sE := nx sD f1502.body.r.r.r.r.l (st0 (.u::.u::.u::.u::.u::rL 1::.d (.s 1 (LK .i64 x))::rL 2::dI 0::rL 3::dI 0::qj) [mb,ab,bb,bb]) (by
  refine Ex.of (n:=K+100) ?_;clear t0 t1 t2 t3 t4 t6 t7 t8 t9 PI hL sA sB sC sD;rw[hbb];unfold aX;unfold iD at*;generalize LK .i64 ps=x4,LK .i64 x=x6 at*;simp (maxSteps:=400000) [f1502,t5])
 have sF := nx sE f1502.body.r.r.r.r.r.l (st0 (.u::.u::.u::.u::.u::rL 1::.d (.s 1 (LK .i64 x))::rL 2::dI 0::rL 3::dI 0::.d (.s 1 us)::dI 0::xh) [mb,ab,bb,bb]) (by
  refine Ex.of (n:=K+100) ?_;clear t0 t1 t2 t3 t4 t5 t7 t8 t9 PI hL sA sB sC sD sE;rw[hbb];unfold aX;unfold iD at*;generalize LK .i64 ps=x4,LK .i64 x=x6 at*;simp (maxSteps:=400000) [f1502,t6])
 have sG := nx sF f1502.body.r.r.r.r.r.r.l (st0 [.u,.u,.u,.u,.u,rL 1,.d (.s 1 (LK .i64 x)),rL 2,.u,.u,.u,.d (.s 1 us),.u,.u,.u,.u,.u,.u,dB false,.u,.u] [mb,ab,bb,bb]) (by
  refine Ex.of (n:=K+200) ?_;clear t0 t1 t2 t3 t4 t5 t6 t8 t9 PI hL sA sB sC sD sE sF;rw[hbb];unfold aX;unfold iD at*;generalize LK .i64 ps=x4,LK .i64 x=x6 at*;simp (maxSteps:=400000) [f1502,t7,hul])
 have sH := nx sG f1502.body.r.r.r.r.r.r.r.l.l (Yq (LK .i64 x) us 0 .u [mb,ab,bb,bb]) (by
  apply e6;clear t0 t1 t2 t3 t4 t5 t6 t7 t8 t9 PI hL sA sB sC sD sE sF sG;unfold Yq;rw[show((0:Nat):Int)=0 from rfl];simp[f1502])
 have sI:Ex E1 f1502.body.r.r.r.r.r.r.r.r.l (Yq (LK .i64 x) us c (dB false) [mb,ab,bb,bb])
   (.norm,(st0 [.u,.u,.u,.u,.u,.u,.d (.s 1 (LK .i64 x)),rL 2,.u,.u,.u,.u,.u,.u,rL 4,dI 0,.u,.u,.u,.u,.u] [mb,ab,bb,bb,wb])):=by
  refine Ex.of (n:=K+100) ?_;clear t0 t1 t2 t3 t4 t5 t6 t7 t9 PI hL sA sB sC sD sE sF sG sH;rw[hab,hwb];unfold Yq aX;unfold iD wD at*;generalize LK .i64 ps=x4,LK .i64 x=x6 at*;simp (maxSteps:=400000) [f1502,t8,D.cells]
 have sJ := nx sI f1502.body.r.r.r.r.r.r.r.r.r.l (st0 [.u,.u,.u,.u,.u,.u,.u,.u,.u,.u,.u,.u,.u,.u,rL 4,dI 0,rL 5,dI 0,.u,.u,.u] [mb,ab,bb,bb,wb,wb]) (by
  refine Ex.of (n:=K+100) ?_;clear t0 t1 t2 t3 t4 t5 t6 t7 t8 PI hL sA sB sC sD sE sF sG sH sI;rw[hbb,hwb];unfold aX;unfold iD wD at*;simp (maxSteps:=400000) [f1502,t9,D.cells])
 have sK:∃ st',Ex E1 f1502.body.r.r.r.r.r.r.r.r.r.r (st0 [.u,.u,.u,.u,.u,.u,.u,.u,.u,.u,.u,.u,.u,.u,rL 4,dI 0,rL 5,dI 0,.u,.u,.u] [mb,ab,bb,bb,wb,wb]) (.ret,st')/\finish f1502 st'=some (dB true,none):=by
  clear t1 t2 t3 t4 t5 t6 t7 t8 t9 hL sA sB sC sD sE sF sG sH sI sJ;rw[hwb];unfold wD at*;refine⟨_,Ex.of (n:=K+100) (by simp (maxSteps:=400000) [f1502,t0,PI,D.cells];rfl),?_⟩;simp[finish,show f1502.res=[.var 4] from rfl,show f1502.ref=false from rfl]
 obtain⟨st',e1,e2⟩:=sK;have e3 := nx sG f1502.body.r.r.r.r.r.r.r.l (Yq (LK .i64 x) us c (dB false) [mb,ab,bb,bb]) (by
  show Ex E1 (.seq f1502.body.r.r.r.r.r.r.r.l.l (.block 0 (.loop tsL))) _ _;exact sH.seq (Ex.block (hL _)))
 exact Ca.body (o:=.ret) rfl (aO 1502 f1502:E1.fn _=_) rfl (sA.seq (sB.seq (sC.seq (sD.seq (sE.seq (sF.seq (sG.seq (e3.seq (sI.seq (sJ.seq e1)))))))))) aC e2
section trimmed
variable {kk:Int} {ps:List Int} (hv:aM kk ps=true) {sy n:Nat} {aK fin:List (List Sv)} (M:Made kk ps sy n aK fin) {l:List (Ar (List Sv))} (hl:Ow kk ps sy n l)
include hv M hl
theorem IP:Ca E1 1506 [.d (tV kk ps sy n (aK.map (bV kk)) (fin.map (bV kk)) (bV kk) l)] (.d (.t [.s 1 (dW (vz (lV kk ps) aK fin (dG (bO (dN kk ps)) (lV kk ps) l))),vI 0]),none):=by
 have h4:=hl.1;have m1:=M.n1;have m2:=M.li;have m3:=M.lf;have h5:=zP (pl:=bO (dN kk ps)) (bD:=lV kk ps) l 10 h4;exact SK (e:=bV kk) (bD:=lV kk ps) sy n aK fin _ ae ae ae (fun x hx=>(XN hv).z1 1 x ae (M.wi x hx).gf) (fun x hx=>(XN hv).z1 1 x ae (M.wf x hx).gf) (fun a ha=>by
  obtain⟨b,hb,e1,e2,e3⟩:=(mY (pl:=bO (dN kk ps)) (l:=l) a).1 ⟨a,(Qu0.1 ha).1,rfl,rfl,rfl⟩;obtain⟨_,g1,_,g2⟩:=hl.2 b hb;rw[m2,<-e1,<-e3];exact⟨g1,g2⟩) _ ⟨_,_,_,_,_,_,_,rfl⟩ (A7 hv M hl)
theorem Yr (u:List Bool)(hu:u.length=n)(h1:Ca E1 1506 [.d (tV kk ps sy n (aK.map (bV kk)) (fin.map (bV kk)) (bV kk) l)] (.d (.t [.s 1 (dW u),vI 0]),none)) :
  Made kk ps sy (cnt u) (gu u aK) (gu u fin)/\Ow kk ps sy (cnt u) (oF u l) /\
  Ca E1 1505 [.d (tV kk ps sy n (aK.map (bV kk)) (fin.map (bV kk)) (bV kk) l)] (.d (.t [tV kk ps sy (cnt u) ((gu u aK).map (bV kk)) ((gu u fin).map (bV kk)) (bV kk) (dG (bO (dN kk ps)) (lV kk ps) (oF u l)),vI 0]),none):=by
 have h4:=hl.1;have m1:=M.n1;have m2:=M.li;have m3:=M.lf;have hc:=Er u;have M2:Made kk ps sy (cnt u) (gu u aK) (gu u fin):=⟨M.s1,ae,uU ae,uU ae,fun x hx=>M.wi x (BR hx),fun x hx=>M.wf x (BR hx)⟩
 have hl2:Ow kk ps sy (cnt u) (oF u l):=by
  refine⟨?_,fun a ha => ?_⟩
  ·unfold oF;rw[Ql1];exact Qd1 (Xh2 ..) h4
  ·obtain⟨b,hb,hs,rfl⟩:=yK ha;obtain⟨s1,s2⟩:=jC.1 hs;have:=IG s1;have:=IG s2;obtain⟨g1,g2,g3,g4⟩:=hl.2 b hb;exact⟨g1,⟨by show(0:Int)<=(toM u b.f.toNat:Int);omega,by show(toM u b.f.toNat:Int)<_;omega⟩,g3,⟨by show(0:Int)<=(toM u b.t.toNat:Int);omega,by show(toM u b.t.toNat:Int)<_;omega⟩⟩
 have hp:=afG (e:=bV kk) kk ps sy n (aK.map (bV kk)) (fin.map (bV kk)) u n ae hu (by simp;omega) (by simp;omega) l ae (fun a ha=>⟨(hl.2 a ha).2.1,(hl.2 a ha).2.2.2⟩);rw[Qn,Qn]at hp;exact⟨M2,hl2,afH _ _ _ _ ⟨_,_,_,_,_,_,_,rfl⟩ ⟨_,_,_,_,_,_,_,rfl⟩ ⟨_,_,_,_,_,_,_,rfl⟩ h1 hp (A7 hv M2 hl2)⟩
end trimmed
theorem Qw (word:List Int):∀ x ∈ oD 2 word,1<=x/\x<=((2:Nat):Int):=fun x hx=>by
 obtain⟨y,_,rfl⟩:=Qg1.1 hx;have h1:=Qp0 y (show(2:Int)≠0 by omega);have h2:=Qm0 y (show(0:Int)<2 by omega);omega
theorem Yt (k:Int)(em:Bool)(st:Int)(li lf la word:List Int)(hk:gM k)(hli:∀ x ∈ li,gM x)(hlf:∀ x ∈ lf,gM x)(hla:∀ x ∈ la,gM x)(hw:∀ x ∈ word,gM x)(aw:Ca E1 1504 [] (dB true,none)) :
  Ca E1 1502 [dI k,.d (.a [vI st,.s 1 (LK .i64 li),.s 1 (LK .i64 lf),.s 1 (LK .i64 la),vB em]),.d (.s 1 (LK .i64 word))] (dB true,none):=by
 have hv:=NY k;have c1:=Ca.gV (aaP k hk);generalize tC k=kk,Az k=ps at*;obtain⟨hn0,hn4⟩:=XL st;have c2:=abF hv st li lf la 2 ae hli hlf hla;have hm:=Ov hv 2 ae (stM st) hn0 la;have hlen:=SA kk ps 2 (stM st) la;have l1:=K_ kk ps li 0 (stM st);have l2:=K_ kk ps lf (stM st-1) (stM st);have w1:∀ x ∈ Bn kk ps li 0 (stM st),Wt kk ps x:=fun x hx=>by
  obtain⟨i,_,rfl⟩:=Qg1.1 hx;exact XI hv li i 0
 have w2:∀ x ∈ Bn kk ps lf (stM st-1) (stM st),Wt kk ps x:=fun x hx=>by
  obtain⟨i,_,rfl⟩:=Qg1.1 hx;exact XI hv lf i _
 rw[show((2:Nat):Int)=2 from rfl]at hm;generalize Bn kk ps li 0 (stM st)=aK,Bn kk ps lf (stM st-1) (stM st)=fin,yD kk ps 2 (stM st) la=l at*;generalize stM st=n at*;have M:Made kk ps 2 n aK fin:=⟨ae,ae,l1,l2,w1,w2⟩
 have A:Jl (Fq (dN kk ps)) (bO (dN kk ps)) bS (bY kk ps) (Gm kk ps):=Oq (aY hv);have hz:∀ x,Fq (dN kk ps) x->lV kk ps x=true->x=bY kk ps:=fun x hx h=>XM hv hx h
 have hL:Ow kk ps 2 n l:=⟨hlen,fun a ha=>⟨(hm a ha).wt hv,(hm a ha).f,(hm a ha).l,(hm a ha).t⟩⟩
 have hP:PA (Fq (dN kk ps)) l:=fun a ha=>(hL.2 a ha).1.gd
 have hpos:Pos l:=fun a ha=>⟨(hL.2 a ha).2.1.1,(hL.2 a ha).2.2.2.1⟩
 have hN:Ow kk ps 2 n (dG (bO (dN kk ps)) (lV kk ps) l):=⟨zP l 10 hlen,XO hv hm hlen⟩
 have aiF:∀ a ∈ dG (bO (dN kk ps)) (lV kk ps) l,(0<=a.f/\a.f<n)/\(0<=a.t/\a.t<n):=fun a ha=>⟨(hN.2 a ha).2.1,(hN.2 a ha).2.2.2⟩
 have ht:∀ a ∈ l,a.t.toNat<n:=fun a ha=>by have:=(hL.2 a ha).2.2.2;omega
 -- the trimmed GD
 have u1:=IP hv M hL;have hul:=qV (lV kk ps) (l1.trans l2.symm) (dG (bO (dN kk ps)) (lV kk ps) l);obtain⟨M2,hL2,t1⟩:=Yr hv M hL _ ae u1;rw[SV hpos]at t1;have hua:=Ye (bD:=lV kk ps) l1 l2 aiF;have hnn:=Yd (m:=vz (lV kk ps) aK fin (dG (bO (dN kk ps)) (lV kk ps) l)) (pl:=bO (dN kk ps)) (bD:=lV kk ps) hpos;have hwt:=SS A hz l1 l2 (fun x hx=>(w1 x hx).gd) (fun x hx=>(w2 x hx).gd) (fun a ha=>(hN.2 a ha).1.gd) aiF (oD 2 word);rw[Gz A hz hP ht _ (fun x hx=>(w1 x hx).gd)]at hwt;have u1':=IP hv M hN;rw[Oo]at u1';obtain⟨_,hL3,_⟩:=Yr hv M hN _ ae u1';have hcl:=Er (vz (lV kk ps) aK fin (dG (bO (dN kk ps)) (lV kk ps) l));generalize vz (lV kk ps) aK fin (dG (bO (dN kk ps)) (lV kk ps) l)=u at*;have u2:=IP hv M2 hL3;rw[hnn,hua]at u2;have alv:∀ a ∈ oF u (dG (bO (dN kk ps)) (lV kk ps) l),(0<=a.f/\a.f<(cnt u:Nat))/\(0<=a.t/\a.t<(cnt u:Nat)):=fun a ha=>⟨(hL3.2 a ha).2.1,(hL3.2 a ha).2.2.2⟩
 obtain⟨_,_,t2⟩:=Yr hv M2 hL3 _ Q2 u2;have s1:(gu u aK).length=cnt u:=M2.li;have s2:(gu u fin).length=cnt u:=M2.lf;have e1:gu (List.replicate (cnt u) true) (gu u aK)=gu u aK:=by rw[<-s1];exact II _
 have e2:gu (List.replicate (cnt u) true) (gu u fin)=gu u fin:=by rw[<-s2];exact II _
 have e3:cnt (List.replicate (cnt u) true)=cnt u:=by
  generalize cnt u=c;unfold cnt;rw[List.filter_replicate];simp
 rw[abY alv,hnn,e1,e2,e3]at t2;obtain⟨q1,qo⟩:=Ev hv M hL hn4 (oD 2 word) (Gu 2 word) (Qw word);obtain⟨q2,_⟩:=Ev hv M2 hL3 ae (oD 2 word) (Gu 2 word) (Qw word);rw[hwt]at q2;have ok2:=Lc hv M2 hL3;have sm:=KW (e:=bV kk) kk ps (2:Nat) (cnt u) ((gu u aK).map (bV kk)) ((gu u fin).map (bV kk)) _ kk ps (2:Nat) (cnt u) ((gu u aK).map (bV kk)) ((gu u fin).map (bV kk)) _ (tH hv) (tH hv) (by simp;omega) (by simp;omega) (by have:=hL3.1;omega) ok2.1 ok2.2.1 ok2.2.2 ok2.1 ok2.2.1 ok2.2.2;rw[Ir]at sm;unfold tV at c2 t1 t2 u2 q1 q2 sm;exact OA aw k em st li lf la word (oD 2 word) kk ps n _ _ _ (cnt u) ae _ _ _ _ c1 c2 (XG 2 ae word hw) t1 t2 u2 sm q1 q2 (aaY hv ae qo)
end Fi.S
