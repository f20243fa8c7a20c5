import Derived.Test.YtbbogkfadofneaaGreatDoorDG
import Derived.Test.YtbbogkfadofneaaGreatDoorDC
set_option linter.unusedVariables false
set_option linter.unusedSimpArgs false
noncomputable section
namespace Fi.S
open Go Fi
set_option maxHeartbeats 8000000
section
variable {α:Type} {P:α->Prop} {pl tm:α->α->α} {z o:α}
def hSt (tm:α->α->α)(z:α)(s:Int)(v:List α)(q:Nat)(a:Ar α):α:=if a.l=s/\a.t.toNat=q then tm (v.getD a.f.toNat z) a.x else z
theorem nY {l:List α}(pz:P z)(h:∀ x ∈ l,P x)(i:Nat):P (l.getD i z):=by
 rw[Qk2];cases hi:l[i]? with
 | none=>exact pz
 | some x=>exact h x (Qa2 hi)
theorem OM (A:Fw P pl tm z o)(s:Int){v:List α}(hv:∀ x ∈ v,P x)(q:Nat){a:Ar α}(ha:P a.x):P (hSt tm z s v q a):=by
 unfold hSt;split
 ·exact A.pt (nY A.pz hv _) ha
 ·exact A.pz
theorem Z0 (A:Fw P pl tm z o)(s:Int){v:List α}(hv:∀ x ∈ v,P x)(q:Nat):Add P pl (hSt tm z s v q):=by
 refine⟨fun a ha=>OM A s hv q ha,fun a b he ha hb => ?_⟩;obtain⟨e1,e2,e3⟩:=he;unfold hSt;show(if a.l=s/\a.t.toNat=q then tm (v.getD a.f.toNat z) (pl a.x b.x) else z)=_;rw[<-e1,<-e2,<-e3];split
 ·rw[A.agc (nY A.pz hv _) ha hb]
 ·rw[A.zero A.pz]
theorem adv (A:Fw P pl tm z o)(s:Int){v out:List α}(hv:∀ x ∈ v,P x)(ho:∀ x ∈ out,P x){a:Ar α}(ha:P a.x):∀ x ∈ kz pl tm z s v out a,P x:=by
 unfold kz;split
 ·intro x hx;rcases Q20 hx with h|rfl
  ·exact ho x h
  ·exact A.pp (nY A.pz ho _) (A.pt (nY A.pz hv _) ha)
 ·exact ho
theorem Wq (A:Fw P pl tm z o)(s:Int){v:List α}(hv:∀ x ∈ v,P x){n:Nat}:∀ (l:List (Ar α)) (out:List α),PA P l->(∀ a ∈ l,a.t.toNat<n)->out.length=n->(∀ x ∈ out,P x) ->
  (∀ x ∈ l.foldl (kz pl tm z s v) out,P x)/\∀ q,q<n->(l.foldl (kz pl tm z s v) out).getD q z=pl (out.getD q z) (sm pl z (l.map (hSt tm z s v q)))
 | [],out,_,_,_,ho=>⟨ho,fun q _=>(A.zero (nY A.pz ho _)).symm⟩
 | a::l,out,hl,ht,hn,ho=>by
  have ha:=hl a aA;have hl':PA P l:=fun b hb=>hl b (by simp[hb])
  obtain⟨h1,h2⟩:=Wq A s hv l (kz pl tm z s v out a) hl' (fun b hb=>ht b (by simp[hb])) (by rw[Dj];exact hn) (adv A s hv ho ha);rw[Qj2];refine⟨h1,fun q hq => ?_⟩;have hm:∀ w ∈ l.map (hSt tm z s v q),P w:=fun w hw=>by
   obtain⟨b,hb,rfl⟩:=Qi1.1 hw;exact OM A s hv q (hl' b hb)
  have px:=OM A s hv q ha;rw[h2 q hq,Qe2,mh A px hm,<-A.assoc (nY A.pz ho _) px (GY A hm)]
  congr 1
  unfold kz hSt
  by_cases g:a.l=s
  ·rw[if_pos g]
   by_cases g2:a.t.toNat=q
   ·subst g2;rw[if_pos ⟨g,rfl⟩,Qk2,Qf0 ae];rfl
   ·rw[if_neg (fun h=>g2 h.2),A.zero (nY A.pz ho _),Qk2,Qd0 g2,<-Qk2]
  ·rw[if_neg g,if_neg (fun h=>g h.1),A.zero (nY A.pz ho _)]
theorem Dk (A:Fw P pl tm z o)(s:Int){v:List α}(hv:∀ x ∈ v,P x){n:Nat}{l:List (Ar α)}(hl:PA P l)(ht:∀ a ∈ l,a.t.toNat<n):(∀ x ∈ dC pl tm z n l s v,P x)/\∀ q,q<n->(dC pl tm z n l s v).getD q z=sm pl z (l.map (hSt tm z s v q)):=by
 obtain⟨h1,h2⟩:=Wq A s hv l (List.replicate n z) hl ht Xi1 (fun x hx=>by rw[Xf1 hx];exact A.pz);refine⟨h1,fun q hq => ?_⟩;have hm:∀ w ∈ l.map (hSt tm z s v q),P w:=fun w hw=>by
  obtain⟨b,hb,rfl⟩:=Qi1.1 hw;exact OM A s hv q (hl b hb)
 show(l.foldl (kz pl tm z s v) (List.replicate n z)).getD q z=_;rw[h2 q hq,Qk2,Q42,if_pos hq];exact A.zl (GY A hm)
theorem Ws {l m:List α}{n:Nat}(hl:l.length=n)(hm:m.length=n)(h:∀ q,q<n->l.getD q z=m.getD q z):l=m:=by
 refine Xj2 fun q => ?_
 by_cases hq:q<n
 ·have:=h q hq;rw[getD_at (z:=z) ae,getD_at (z:=z) ae,this]
 ·rw[Qn2 ae,Qn2 ae]
variable {dP:α->Bool}
theorem J5 (A:Fw P pl tm z o)(hz:∀ x,P x->dP x=true->x=z)(s:Int){v:List α}(hv:∀ x ∈ v,P x){n:Nat}{l:List (Ar α)}(hl:PA P l)(ht:∀ a ∈ l,a.t.toNat<n):dC pl tm z n (iU pl dP l) s v=dC pl tm z n l s v:=by
 have hn:PA P (iU pl dP l):=fun a ha=>yP A hl a (Qz1.1 ha).1
 have hnt:∀ a ∈ iU pl dP l,a.t.toNat<n:=fun a ha=>by
  obtain⟨b,hb,e1,e2,e3⟩:=(xm (pl:=pl) (l:=l) a).1 ⟨a,(Qz1.1 ha).1,rfl,rfl,rfl⟩;rw[<-e3];exact ht b hb
 refine Ws (z:=z) (oK ..) (oK ..) fun q hq => ?_
 rw[(Dk A s hv hn hnt).2 q hq,(Dk A s hv hl ht).2 q hq];refine QN A (Z0 A s hv q) (fun a ha hi => ?_) hl;unfold hSt;split
 ·rw[hz _ ha hi,A.VV (nY A.pz hv _)]
 ·rfl
theorem FB (A:Fw P pl tm z o)(hz:∀ x,P x->dP x=true->x=z){n:Nat}{l:List (Ar α)}(hl:PA P l)(ht:∀ a ∈ l,a.t.toNat<n):∀ (w:List Int) {v:List α},(∀ x ∈ v,P x)->iZ (dC pl tm z n (iU pl dP l)) v w=iZ (dC pl tm z n l) v w
 | [],_,_=>rfl
 | s::w,v,hv=>by
  show iZ _ (dC pl tm z n (iU pl dP l) s v) w=iZ _ (dC pl tm z n l s v) w;rw[J5 A hz s hv hl ht];exact FB A hz hl ht w (Dk A s hv hl ht).1
section trim
variable (A:Fw P pl tm z o) (hz:∀ x,P x->dP x=true->x=z) {n:Nat} {bJ fin:List α} {l:List (Ar α)} (h1:bJ.length=n) (h2:fin.length=n) (p1:∀ x ∈ bJ,P x) (p2:∀ x ∈ fin,P x) (hl:PA P l) (hin:∀ a ∈ l,(0<=a.f/\a.f<n)/\(0<=a.t/\a.t<n))
include A hz h1 h2 p1 p2 hl hin
end trim
end
end Fi.S
noncomputable section
namespace Fi.S
open Go Fi
set_option maxHeartbeats 8000000
set_option maxRecDepth 10000
section vals
variable {kk:Int} {ps:List Int} (hv:aK kk ps=true)
include hv
abbrev KP (kk:Int)(ps:List Int)(D N:Nat)(x:List Sv):Prop:=Ei (dW kk ps) x/\Ej D N x
theorem AQ (D N:Nat):KP kk ps D N (bW kk ps):=⟨(MQ (aU hv)).pz,JS (aU hv) _ _⟩
theorem AR {D N:Nat}{l:List (List Sv)}(h:∀ x ∈ l,KP kk ps D N x)(i:Nat):KP kk ps D N (l.getD i (bW kk ps)):=nY (AQ hv D N) h i
theorem xz {i:Nat}{x y:List Sv}(hx:KP kk ps (6 ^ (i+1)) (bN i) x)(hy:Wt kk ps y):KP kk ps (6 ^ (i+1+1)) (20*(640*bN i)) (bQ x y):=by
 have A:=MQ (aU hv);refine⟨A.pt hx.1 hy.gd,?_⟩;rw[A.VU hx.1 hy.gd,Qm1 6 (i+1),Ql1];exact QP (aU hv) (M:=20) ae hy.1 hx.1 hy.2 hx.2
theorem FC {i:Nat}(hi:i<=4){x y:List Sv}(hx:KP kk ps (6 ^ (i+1)) (bN i) x)(hy:Wt kk ps y):Ca E1 21 [.d (aT kk ps),.d (cO kk x).d,.d (cO kk y).d] (.d (cO kk (bQ x y)).d,none):=by
 have hb:=OH hi;have hd:=V3 (show i+1<=6 by omega);have hB:bN 4<4294967296 ^ 3:=cK;exact QM hv (S:=3) (M:=216) (N:=20) ae ae ae (xw (aU hv) hx.1 hx.2 (Qq2 ae) ae ae) hy.1
theorem G5 {i:Nat}{v:List (List Sv)}(hx:∀ x ∈ v,KP kk ps (6 ^ (i+1)) (bN i) x)(s:Int):∀ (l:List (Ar (List Sv))) (out:List (List Sv)) (c:Nat),(∀ a ∈ l,Wt kk ps a.x)->(∀ x ∈ out,KP kk ps (6 ^ (i+1+1)) (c*(20*(640*bN i))) x) ->
  ∀ x ∈ l.foldl (kz (bV (dW kk ps)) bQ (bW kk ps) s v) out,KP kk ps (6 ^ (i+1+1)) ((c+l.length)*(20*(640*bN i))) x
 | [],out,c,_,ho=>ho
 | a::l,out,c,hl,ho=>by
  rw[Qj2,show c+(a::l).length=(c+1)+l.length by simp;omega];refine G5 hx s l _ (c+1) (fun b hb=>hl b (by simp[hb])) ?_;unfold kz;have A:=MQ (aU hv);split
  ·intro x hxm;rcases Q20 hxm with h|rfl
   ·exact⟨(ho x h).1,(ho x h).2.mono (Qe0 _ ae)⟩
   ·have t1:=xz hv (AR hv hx a.f.toNat) (hl a aA);have t2:=AR hv ho a.t.toNat;refine⟨A.pp t2.1 t1.1,?_⟩;rw[Qp1,Nat.one_mul];exact xn (aU hv) t2.1 t1.1 t2.2 t1.2
  ·intro x h;exact⟨(ho x h).1,(ho x h).2.mono (Qe0 _ ae)⟩
theorem G6 {n:Nat}{l:List (Ar (List Sv))}(hl:∀ a ∈ l,Wt kk ps a.x)(hn:l.length<=10):∀ (w:List Int) (i:Nat) (v:List (List Sv)),(∀ x ∈ v,KP kk ps (6 ^ (i+1)) (bN i) x)->∀ x ∈ iZ (dC (bV (dW kk ps)) bQ (bW kk ps) n l) v w,KP kk ps (6 ^ (i+w.length+1)) (bN (i+w.length)) x
 | [],_,_,h=>h
 | s::w,i,v,h=>by
  have h1:=G5 hv h s l (List.replicate n (bW kk ps)) 0 hl (fun x hx=>by rw[Xf1 hx];exact AQ hv _ _);rw[show i+(s::w).length=(i+1)+w.length by simp;omega];refine G6 hl hn w (i+1) _ fun x hx=>⟨(h1 x hx).1,(h1 x hx).2.mono ?_⟩
  show(0+l.length)*_<=10*_;exact Qe0 _ ae
theorem OO {i:Nat}:∀ (v w:List (List Sv)),(∀ x ∈ v,KP kk ps (6 ^ (i+1)) (bN i) x)->(∀ x ∈ w,Wt kk ps x)->∀ (c:Nat) (acc:List Sv),KP kk ps (6 ^ (i+1+1)) (c*(20*(640*bN i))) acc ->
  KP kk ps (6 ^ (i+1+1)) ((c+v.length)*(20*(640*bN i))) ((v.zip w).foldl (fun acc p=>bV (dW kk ps) acc (bQ p.1 p.2)) acc)
 | [],w,_,_,c,acc,h=>by simpa using h
 | x::v,[],_,_,c,acc,h=>⟨h.1,h.2.mono (Qe0 _ ae)⟩
 | x::v,y::w,hx,hy,c,acc,h=>by
  have A:=MQ (aU hv);have t1:=xz hv (hx x aA) (hy y aA);rw[X40,Qj2,show c+(x::v).length=(c+1)+v.length by simp;omega];refine OO v w (fun z hz=>hx z (by simp[hz])) (fun z hz=>hy z (by simp[hz])) (c+1) _ ⟨A.pp h.1 t1.1,?_⟩;rw[Qp1,Nat.one_mul];exact xn (aU hv) h.1 t1.1 h.2 t1.2
end vals
section weight
variable {kk:Int} {ps:List Int} (hv:aK kk ps=true) {sy n:Nat} {bJ fin:List (List Sv)} (M:Made kk ps sy n bJ fin) {l:List (Ar (List Sv))} (hl:Wd kk ps sy n l) (hn:n<=4) (w:List Int) (hw:w.length<=4) (hws:∀ x ∈ w,1<=x/\x<=(sy:Int))
include hv M hl hn hw hws
theorem Dl:Ca E1 1530 [.d (Fp kk ps sy n (bJ.map (cO kk)) (fin.map (cO kk)) (cO kk) l),.d (.s 1 (LK .i64 w))] (.d (.t [(cO kk (uq (bV (dW kk ps)) bQ (bW kk ps) (iZ (dC (bV (dW kk ps)) bQ (bW kk ps) n l) bJ w) fin)).d,vI 0]),none) /\
  gY 3 216 (dW kk ps) (uq (bV (dW kk ps)) bQ (bW kk ps) (iZ (dC (bV (dW kk ps)) bQ (bW kk ps) n l) bJ w) fin):=by
 have e1:(bJ.map (cO kk)).map W.d=bJ.map fun x=>(cO kk x).d:=by simp[Xo0]
 have e2:(fin.map (cO kk)).map W.d=fin.map fun x=>(cO kk x).d:=by simp[Xo0]
 have h1:=(Di hv M hl).2;have hlen:=hl.1;have m1:=M.n1;have m2:=M.li;have m3:=M.lf;have h2:=JL (adr hv) l ae ae (fun a ha=>(hl.2 a ha).1.gf);have h4:=ZC (adr hv) sy n bJ fin l (yD hv) ae ae ae ae (fun x hx=>(M.wi x hx).gf) (fun x hx=>(M.wf x hx).gf) (fun a ha=>(hl.2 a ha).1.gf);unfold Fp at h1 h4 ⊢;rw[e1,e2]at h1 h4 ⊢;have h3:=Wo kk ps sy n (bJ.map fun x=>(cO kk x).d) (fin.map fun x=>(cO kk x).d) _ _ (by have:=Fs (pl:=bV (dW kk ps)) (dP:=yH kk ps) l 10 hlen;unfold iU at this;omega) h2 (fun a ha=>by
  obtain⟨b,hb,q1,q2,q3⟩:=(xm (pl:=bV (dW kk ps)) (l:=l) a).1 ⟨a,(Qz1.1 ha).1,rfl,rfl,rfl⟩;have:=(hl.2 b hb).2.2.1;omega)
 have hck:=QX kk ps sy n (bJ.map fun x=>(cO kk x).d) (fin.map fun x=>(cO kk x).d) (l.map (Ar.d (cO kk))) (LK .i64 w) h1 h3 (Wp w sy (by have:=M.s1;omega) ae hws);have hB:4*(20*(640*bN 4))<4294967296 ^ 3:=cK;have hv0:∀ x ∈ bJ,KP kk ps (6 ^ (0+1)) (bN 0) x:=fun x hx=>⟨(M.wi x hx).gd,(M.wi x hx).2⟩
 have hA:∀ a ∈ l,Wt kk ps a.x:=fun a ha=>(hl.2 a ha).1
 have hz:=AJ hv;have hin:∀ a ∈ l,(0<=a.f/\a.f<n)/\(0<=a.t/\a.t<n):=fun a ha=>⟨(hl.2 a ha).2.1,(hl.2 a ha).2.2.2⟩
 have hf:=MV (e:=cO kk) kk ps sy n bJ (fin.map fun x=>(cO kk x).d) (l.map (Ar.d (cO kk))) _ _ w ae (dC (bV (dW kk ps)) bQ (bW kk ps) n l) hck h4 (fun j s hj=>by
  have hjw:=(bq hj)
  have hvv:=G6 hv (n:=n) hA hlen (w.take j) 0 bJ hv0;have hvl:=J4 (El:=dC (bV (dW kk ps)) bQ (bW kk ps) n l) (fun s v=>oK ..) m2 (w.take j);have hi4:0+(w.take j).length<=3:=by rw[Qr0];omega
  generalize iZ (dC (bV (dW kk ps)) bQ (bW kk ps) n l) bJ (w.take j)=v,0+(w.take j).length=i at*;have hb:=OH (show i<=4 by omega);have hb2:=OH (show i+1<=4 by omega);have hT:10*(20*(640*bN i))<=bN 4:=hb2;have hd2:=V3 (show i+1+1<=6 by omega);refine ZZ (e:=cO kk) kk ps sy n ae _ _ l ae hin v hvl s _ _ _ hz fun k a hk hs => ?_
  have ha:=hA a (Qa2 hk);have hkl:(l.take k).length<=10:=by rw[Qr0];omega
  have t1:=AR hv hvv a.f.toNat;have t2:=xz hv t1 ha;have t3:=AR hv (G5 hv hvv s (l.take k) (List.replicate n (bW kk ps)) 0 (fun b hb=>hA b (Qn1 hb)) (fun x hx=>by rw[Xf1 hx];exact AQ hv _ _)) a.t.toNat;have hk2:(0+(l.take k).length)*(20*(640*bN i))<=10*(20*(640*bN i)):=Qe0 _ ae;exact⟨FC hv ae t1 ha,JV hv (Qq2 ae) ae ae ae t3.1 t3.2 t2.1 t2.2⟩)
 have hvv:=G6 hv (n:=n) hA hlen w 0 bJ hv0;have hvl:=J4 (El:=dC (bV (dW kk ps)) bQ (bW kk ps) n l) (fun s v=>oK ..) m2 w;have hi4:0+w.length<=4:=ae;generalize iZ (dC (bV (dW kk ps)) bQ (bW kk ps) n l) bJ w=v,0+w.length=i at*;have hb:=OH hi4;have hd2:=V3 (show i+1+1<=6 by omega);have hT:4*(20*(640*bN i))<=4*(20*(640*bN 4)):=Qy0 _ (Qy0 _ (Qy0 _ hb));have dv:∀ j,KP kk ps (6 ^ (i+1+1)) (4*(20*(640*bN i))) (uq (bV (dW kk ps)) bQ (bW kk ps) (v.take j) (fin.take j)):=fun j=>by
  have:=OO hv (v.take j) (fin.take j) (fun x hx=>hvv x (Qn1 hx)) (fun x hx=>M.wf x (Qn1 hx)) 0 (bW kk ps) (AQ hv _ _);refine⟨this.1,this.2.mono (Qe0 _ ?_)⟩;rw[Qr0];omega
 have hd:=adt (e:=cO kk) kk ps v fin n ae hvl m3 (bV (dW kk ps)) bQ (bW kk ps) hz (fun j x y hx hy=>by
  have t1:=hvv x (Qa2 hx);have t0:=M.wf y (Qa2 hy);have t2:=xz hv t1 t0;have t3:=dv j;exact⟨FC hv hi4 t1 t0,JV hv (Qq2 ae) ae ae ae t3.1 t3.2 t2.1 t2.2⟩)
 have t3:=dv n;rw[Qe1 ae,Qe1 ae]at t3;exact⟨MW kk ps sy n _ _ _ _ _ _ hf hd,xw (aU hv) t3.1 t3.2 (Qq2 ae) ae ae⟩
end weight
end Fi.S
noncomputable section
namespace Fi.S
open Go Fi
set_option maxHeartbeats 8000000
set_option maxRecDepth 10000
section plain
variable {α:Type} {pl:α->α->α} {dP:α->Bool}
variable {m:List Bool}
end plain
section trimmed
variable {kk:Int} {ps:List Int} (hv:aK kk ps=true) {sy n:Nat} {bJ fin:List (List Sv)} (M:Made kk ps sy n bJ fin) {l:List (Ar (List Sv))} (hl:Wd kk ps sy n l)
include hv M hl
end trimmed
theorem G7 (word:List Int):∀ x ∈ nN 2 word,1<=x/\x<=((2:Nat):Int):=fun x hx=>by
 obtain⟨y,_,rfl⟩:=Qi1.1 hx;have h1:=Qo1 y (show(2:Int)≠0 by omega);have h2:=Ql2 y (show(0:Int)<2 by omega);omega
end Fi.S
