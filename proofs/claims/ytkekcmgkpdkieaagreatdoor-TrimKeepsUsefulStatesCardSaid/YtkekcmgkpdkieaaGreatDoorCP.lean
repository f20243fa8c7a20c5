import Derived.Test.YtkekcmgkpdkieaaGreatDoorCO
set_option linter.unusedVariables false
set_option linter.unusedSimpArgs false
noncomputable section
namespace Fi.S
open Go Fi
set_option maxHeartbeats 1000000
theorem Tn {S:Nat}(hS:1<=S){a:List bS}(ha:PV S a):jR a []=a :=
 PV.ext (Bi hS hS ha (PV.nil S)) ha (fun e=>by rw[H_];simp only[tot];grind)
def cv (a:List bS)(f:jQ->Rat)(e:jQ):Rat:=match a with
 | []=>0
 | p::r=>p.2*f (e.1-p.1.1,e.2.1-p.1.2.1,e.2.2-p.1.2.2)+cv r f e
theorem Br (x:BitVec 64):IntKind.wrap .u64 (x.toNat:Int)=(x.toNat:Int):=by
 have h:=x.isLt;rw[<-cB];exact wrap_u64 ae
theorem KO (u v:Int):GA .u64 u v=((BitVec.ofInt 64 u ||| BitVec.ofInt 64 v).toNat:Int):=by
 rw[xh];exact Br _
theorem FD (u v:Int):Ak .u64 u v=((BitVec.ofInt 64 u &&& BitVec.ofInt 64 v).toNat:Int):=by
 rw[Fg];exact Br _
theorem Tp (x:BitVec 64):BitVec.ofInt 64 (x.toNat:Int)=x:=aC
theorem aeJ {u:Int}(h:AU u):((BitVec.ofInt 64 u).toNat:Int)=u:=by
 unfold AU at h;rw[BitVec.toNat_ofInt];omega
theorem or_comm (u v:Int):GA .u64 u v=GA .u64 v u:=by rw[KO,KO,BitVec.or_comm]
theorem and_comm (u v:Int):Ak .u64 u v=Ak .u64 v u:=by rw[FD,FD,BitVec.and_comm]
theorem and_assoc (u v w:Int):Ak .u64 (Ak .u64 u v) w=Ak .u64 u (Ak .u64 v w):=by
 simp only[FD,Tp,BitVec.and_assoc]
theorem or_zero {u:Int}(h:AU u):GA .u64 u 0=u:=by
 rw[KO];have h0:BitVec.ofInt 64 0=0#64:=rfl;rw[h0,BitVec.or_zero,aeJ h]
section
theorem of1 {S M:Nat}{x:Sv}(h:x.of 1 S M):∃ q,x=.q q/\qz q<=S:=by
 cases x with
 | q x=>exact⟨x,rfl,h.2⟩
 | c i n=>exact absurd h.1 fV
 | s u=>exact absurd h.1 fV
 | p a=>exact absurd h.1 fV
theorem of2 {S M:Nat}{x:Sv}(h:x.of 2 S M):∃ i n,x=.c i n/\0<=n/\n<=1099511627776/\(i=true->n=0):=by
 cases x with
 | c i n=>exact⟨i,n,rfl,h.2⟩
 | q x=>rcases h.1 with h | h;exact absurd h fV;exact absurd h.1 fV
 | s u=>exact absurd h.1 fV
 | p a=>exact absurd h.1 fV
theorem of3 {S M:Nat}{x:Sv}(h:x.of 3 S M):∃ q,x=.q q/\0<=q/\q<=1/\qz q<=S:=by
 cases x with
 | q x =>
  rcases h.1 with h1|h1
  ·exact absurd h1 fV
  ·exact⟨x,rfl,h1.2.1,h1.2.2,h.2⟩
 | c i n=>exact absurd h.1 fV
 | s u=>exact absurd h.1 fV
 | p a=>exact absurd h.1 fV
theorem of4 {S M:Nat}{x:Sv}(h:x.of 4 S M):∃ u,x=.s u/\AU u:=by
 cases x with
 | s u=>exact⟨u,rfl,h.2⟩
 | q x=>rcases h.1 with h | h;exact absurd h fV;exact absurd h.1 fV
 | c i n=>exact absurd h.1 fV
 | p a=>exact absurd h.1 fV
theorem of5 {S M:Nat}{x:Sv}(h:x.of 5 S M):∃ a,x=.p a/\PV S a/\a.length<=M:=by
 cases x with
 | p a=>exact⟨a,rfl,h.2⟩
 | q x=>rcases h.1 with h | h;exact absurd h fV;exact absurd h.1 fV
 | c i n=>exact absurd h.1 fV
 | s u=>exact absurd h.1 fV
theorem pl1 (x y:Rat):ek 1 (.q x) (.q y)=.q (x+y):=rfl
theorem pl3 (x y:Rat):ek 3 (.q x) (.q y)=.q (if x<y then y else x):=by
 show(if x<y then Sv.q y else .q x)=_;split<;>rfl
theorem pl2 (i j:Bool)(n m:Int):ek 2 (.c i n) (.c j m)=if vN j m i n then .c j m else .c i n:=rfl
theorem pl4 (u v:Int):ek 4 (.s u) (.s v)=.s (GA .u64 u v):=rfl
theorem pl5 (a b:List bS):ek 5 (.p a) (.p b)=.p (jR a b):=rfl
section laws
variable {k:Int} {S M:Nat} {x y z:Sv}
theorem OD (hk:single k=true)(hS:1<=S)(hx:x.of k S M):ek k x (gX k)=x:=by
 rcases bR hk with rfl|rfl|rfl|rfl|rfl
 ·obtain⟨a,rfl,_⟩:=of1 hx;show Sv.q (a+0)=_;rw[Rat.add_zero]
 ·obtain⟨i,n,rfl,h1,h2,h3⟩:=of2 hx;show(if vN true 0 i n then Sv.c true 0 else .c i n)=_;rfl
 ·obtain⟨a,rfl,a0,_⟩:=of3 hx;show ek 3 (.q a) (.q 0)=_;rw[pl3,if_neg (by grind)]
 ·obtain⟨u,rfl,hu⟩:=of4 hx;show Sv.s (GA .u64 u 0)=_;rw[or_zero hu]
 ·obtain⟨a,rfl,ha,_⟩:=of5 hx;show Sv.p (jR a [])=_;rw[Tn hS ha]
end laws
end
set_option maxHeartbeats 8000000
section
def lI (kk:Int)(ps:List Int):List Int:=if kk=6 then ps else [kk]
def gN (kk:Int)(xs:List Sv):W:=if kk=6 then gW (xs.map Sv.w) else(xs.headD (.q 0)).w
theorem jS {kk:Int}{ps:List Int}(h:aR kk ps=true):∀ k ∈ lI kk ps,single k=true:=by
 unfold lI;split
 ·rename_i h6;subst h6;exact(rg6 h).2.2
 ·rename_i h6;unfold aR at h;rw[if_pos h6]at h;simp only[Qa2]at h;intro k hk;rw[Xc1]at hk;subst hk;exact h.1
theorem mK.mono {S T M M':Nat}{ks:List Int}{xs:List Sv}(h:mK S M ks xs)(hST:S<=T)(hM:M<=M'):mK T M' ks xs:=⟨h.1,fun i k x hk hx=>(h.2 i k x hk hx).mono hST hM⟩
theorem XR {ks:List Int}{l m:List Sv}(hl:l.length=ks.length)(hm:m.length=ks.length)(h:∀ (i:Nat) (k:Int) (x y:Sv),ks[i]?=some k->l[i]?=some x->m[i]?=some y->x=y):l=m:=by
 refine List.ext_getElem ae (fun i h1 h2 => ?_);exact h i (ks[i]'(by omega)) _ _ (Qa1 ae) (Qa1 h1) (Qa1 h2)
theorem zL {α:Type}{l:List α}{i:Nat}{x y:α}(h1:l[i]?=some x)(h2:l[i]?=some y):x=y:=by
 rw[h1]at h2;exact Qz2 h2
section laws
variable {S M:Nat} {ks:List Int} {xs ys zs:List Sv}
theorem OE (hx:xs.length=ks.length)(hy:ys.length=ks.length):(kG ks xs ys).length=ks.length:=by simp[kG,hx,hy]
theorem Bt {f:Int->Sv}{i:Nat}{k:Int}{z:Sv}(hk:ks[i]?=some k)(h:(ks.map f)[i]?=some z):z=f k:=by
 rw[Qc1,hk]at h;exact(Qz2 h).symm
theorem KP (hS:1<=S)(hs:∀ k ∈ ks,single k=true)(hx:mK S M ks xs):kG ks xs (ks.map gX)=xs:=by
 refine XR (OE hx.1 aC) hx.1 (fun i k u v hk hu hv => ?_);obtain⟨k1,x,y,a1,a2,a3,rfl⟩:=Bq hu;obtain rfl:=zL hk a1;obtain rfl:=zL a2 hv;rw[Bt hk a3];exact OD (hs k (Qb2 hk)) hS (hx.2 i k _ hk a2)
theorem xH (hS:1<=S)(hs:∀ k ∈ ks,single k=true):mK S M ks (ks.map gX):=⟨aC,fun i k x hk hx=>by rw[Bt hk hx];exact Td (hs k (Qb2 hk)) S M hS⟩
end laws
section ring
variable {kk:Int} {ps:List Int} {S M:Nat} {xs ys:List Sv}
theorem q9 {k:Int}(h:mK S M [k] xs):∃ x,xs=[x]/\x.of k S M:=by
 match xs,h with
 | [x],h=>exact⟨x,rfl,h.2 0 k x rfl rfl⟩
 | [],h=>simp[mK]at h
 | _::_::_,h=>simp[mK]at h
theorem sK (h:aR kk ps=true)(h6:kk≠6):ps=[]/\single kk=true:=by
 unfold aR at h;rw[if_pos h6]at h;simp only[Qa2,decide_eq_true_eq]at h;exact⟨h.2,h.1⟩
theorem Ik (hv:aR kk ps=true)(hS:S<=1000)(h:mK S M (lI kk ps) xs):(gN kk xs).OK:=by
 unfold gN
 by_cases h6:kk=6
 ·subst h6;rw[if_pos rfl];unfold lI at h;rw[if_pos rfl]at h;exact MF hS (rg6 hv).1 h
 ·rw[if_neg h6];unfold lI at h;rw[if_neg h6]at h;obtain⟨x,rfl,hx⟩:=q9 h;exact Ti hx hS
theorem Bu (hv:aR kk ps=true)(h:mK S M (lI kk ps) xs):bU kk ps (gN kk xs)=true:=by
 unfold gN
 by_cases h6:kk=6
 ·subst h6;rw[if_pos rfl];unfold lI at h;rw[if_pos rfl]at h;exact Bp hv h
 ·rw[if_neg h6];unfold lI at h;rw[if_neg h6]at h;obtain⟨x,rfl,hx⟩:=q9 h;unfold bU;rw[hv,if_pos h6];exact Tg hx
theorem Tq (hv:aR kk ps=true):ps.length<=1000000:=by
 by_cases h6:kk=6
 ·subst h6;have:=(rg6 hv).1;omega
 ·rw[(sK hv h6).1];simp
theorem Il (hv:aR kk ps=true)(hS:S<=1000)(h:mK S M (lI kk ps) xs):Ca E1 41 [.d (bD kk ps),.d (gN kk xs).d] (.d (gN kk xs).d,none) :=
 FC (Tq hv) (Ik hv hS h) (Bu hv h)
theorem MG (hv:aR kk ps=true)(hS:S<=1000)(hM:(M+M)*(S+1)<=50000)(hx:mK S M (lI kk ps) xs)(hy:mK S M (lI kk ps) ys) :
  Ca E1 14 [.d (bD kk ps),.d (gN kk xs).d,.d (gN kk ys).d] (.d (gN kk (kG (lI kk ps) xs ys)).d,none):=by
 have vx:=Il hv hS hx;have vy:=Il hv hS hy;unfold gN lI at*
 by_cases h6:kk=6
 ·subst h6;simp only[if_true]at*;exact KN hS hM hv _ _ hx hy vx vy
 ·simp only[if_neg h6]at*;obtain⟨rfl,hs⟩:=sK hv h6;obtain⟨x,rfl,hx'⟩:=q9 hx;obtain⟨y,rfl,hy'⟩:=q9 hy;exact Ta hs _ _ _ _ _ vx vy (Ii hs hS hM hx' hy')
end ring
end
end Fi.S
noncomputable section
namespace Fi.S
open Go Fi
set_option maxHeartbeats 8000000
set_option maxRecDepth 10000
theorem Ee {kk:Int}{ps:List Int}(h:aR kk ps=true):Ca E1 26 [.d (bD kk ps)] (.d (gN kk ((lI kk ps).map gX)).d,none):=by
 have h1:=Tm h;have e:Ij kk ps=gN kk ((lI kk ps).map gX):=by
  unfold Ij gN lI
  by_cases h6:kk=6
  ·simp only[if_pos h6,Xg0];rfl
  ·simp only[if_neg h6];rfl
 rw[e]at h1;exact h1
theorem OG {k:Int}{S M:Nat}(hS:S<=1000){x:Sv}(h:x.of k S M):∃ s l1 l2 c b u p,x.w.d=wD s l1 l2 c b u p [] /\
  Ca E1 85 [.d (.a [vB s,.s 1 l1,.s 1 l2])] (.d (.a [vB s,.s 1 l1,.s 1 l2]),none)/\Ca E1 86 [.d (.s 6 p)] (.d (.s 6 p),none):=by
 have t0:=Ca.jg (kD 0 (by have:=oU;omega));rw[vL]at t0;obtain⟨_,p0,rfl⟩:=vM (PV.nil S) hS;cases x with
 | q x =>
  have:=h.2;exact⟨_,_,_,_,_,_,_,rfl,Ca.jg (kD x ae),p0⟩
 | c i n=>exact⟨_,_,_,_,_,_,_,rfl,t0,p0⟩
 | s u=>exact⟨_,_,_,_,_,_,_,rfl,t0,p0⟩
 | p l =>
  obtain⟨_,t1,rfl⟩:=vM h.2.1 hS;exact⟨_,_,_,_,_,_,_,abj l,t0,t1⟩
theorem fJ (kk:Int)(ps:List Int)(i:Nat)(j:Int)(hj:j=i)(a:Int)(h:ps[i]?=some a):Ca E1 56 [.d (bD kk ps),dI j] (.d (bD a []),none):=by
 subst hj;have e1:(LK .i64 ps)[i]?=some (vI a):=by simp[LK,h]
 have hl:i<(LK .i64 ps).length:=(aS e1)
 have h0:(0:Int)<=(i:Int):=ae;refine Ca.bO (n:=60) ?_;rw[aB rfl (aN 56 f56:E1.fn _=_) rfl];have e2:=idx e1;have e0:LK .i64 []=[]:=rfl;unfold bD;rw[e0];simp[f56,e1,e2,hl,h0]
theorem wr1:av .i64 1=1:=wrap_i64 ae
theorem wr2:av .i64 2=2:=wrap_i64 ae
theorem wr3:av .i64 3=3:=wrap_i64 ae
theorem fK {k:Int}(hk:single k=true):aR k []=true/\k≠6:=by
 have h6:k≠6:=by
  rintro rfl;exact absurd hk fV
 exact⟨by unfold aR;rw[if_pos h6,hk];rfl,h6⟩
theorem vS {kk:Int}{ps:List Int}{S M:Nat}{xs:List Sv}(hv:aR kk ps=true)(h:mK S M (lI kk ps) xs) :
  (single kk=true/\ps=[]/\∃ x,xs=[x]/\x.of kk S M) \/
  (kk=6/\∃ a b x y,ps=[a,b]/\xs=[x,y]/\single a=true/\single b=true/\x.of a S M/\y.of b S M) \/
  (kk=6/\∃ a b c x y z,ps=[a,b,c]/\xs=[x,y,z]/\single a=true/\single b=true/\single c=true/\x.of a S M/\y.of b S M/\z.of c S M):=by
 have hs:=jS hv
 by_cases h6:kk=6
 ·subst h6;obtain⟨l3,l2,_⟩:=rg6 hv;unfold lI at*;rw[if_pos rfl]at h hs;have hl:=h.1
  match ps,xs,l3,l2,hl with
  | [a,b],[x,y],_,_,_=>exact .inr (.inl ⟨rfl,a,b,x,y,rfl,rfl,hs a aC,hs b aC,h.2 0 a x rfl rfl,h.2 1 b y rfl rfl⟩)
  | [a,b,c],[x,y,z],_,_,_=>exact .inr (.inr ⟨rfl,a,b,c,x,y,z,rfl,rfl,hs a aC,hs b aC,hs c aC,h.2 0 a x rfl rfl,h.2 1 b y rfl rfl,h.2 2 c z rfl rfl⟩)
 ·obtain⟨rfl,hk⟩:=sK hv h6;unfold lI at h;rw[if_neg h6]at h;obtain⟨x,rfl,hx⟩:=q9 h;exact .inl ⟨hk,rfl,x,rfl,hx⟩
theorem mk_one {k:Int}(hk:single k=true)(x:Sv):gN k [x]=x.w:=if_neg (fK hk).2
theorem MH {k:Int}(hk:single k=true){S M:Nat}{x:Sv}(h:x.of k S M):mK S M (lI k []) [x]:=by
 unfold lI;rw[if_neg (fK hk).2];exact⟨rfl,fun i k' x' h1 h2=>by
  match i with
  | 0=>cases h1;cases h2;exact h
  | i+1=>cases h1⟩
theorem rf {k:Int}(hk:single k=true){S M:Nat}(hS1:1<=S)(hS:S<=1000){x:Sv}(h:x.of k S M):Ca E1 53 [.d (bD k []),.d x.w.d] (.d x.w.d,none):=by
 have hc:=Ca.jg (r9 k [] x.w aC (Ti h hS));have hm:=Bu (fK hk).1 (MH hk h);rw[mk_one hk]at hm;rw[hm]at hc;obtain⟨s,l1,l2,c,b,u,p,e,t1,t2⟩:=OG hS h;rw[e]at hc ⊢;obtain⟨K,hK,a0,a1,a2⟩:=(hc.j (t1.j t2.any)).at 0;clear hc t1 t2 e h hm hK;refine Ca.bO (n:=K+200) ?_;rw[aB rfl (k53:E1.fn _=_) rfl];unfold wD bD at*;generalize LK .i64 []=l0 at*;simp[aH,f53,a0,a1,a2]
theorem o7 (xs:List Sv):(gW (xs.map Sv.w)).d=wD false [] [] 0 false 0 [] (xs.map fun x=>x.w.d):=by
 show D.a [vB false,.s 1 [],.s 1 [],vI 0,vB false,.v (.int .u64 0),.s 6 [],.s 8 (W.ds (xs.map Sv.w))]=_;rw[W.fI,Xg0];rfl
theorem Bv {ps:List Int}{S M:Nat}{xs:List Sv}(hv:aR 6 ps=true)(hS1:1<=S)(hS:S<=1000)(h:mK S M ps xs) :
  Ca E1 29 [.d (bD 6 ps),.d (wD false [] [] 0 false 0 [] (xs.map fun x=>x.w.d))] (dB true,none)/\Ca E1 85 [.d (.a [vB false,.s 1 [],.s 1 []])] (.d (.a [vB false,.s 1 [],.s 1 []]),none)/\Ca E1 86 [.d (.s 6 [])] (.d (.s 6 []),none):=by
 have hc:=Ca.jg (r9 6 ps (gW (xs.map Sv.w)) (Tq hv) (MF hS (rg6 hv).1 h));rw[Bp hv h,o7]at hc;have t0:=Ca.jg (kD 0 (by have:=oU;omega));rw[vL]at t0;obtain⟨_,p0,rfl⟩:=vM (PV.nil S) hS;exact⟨hc,t0,p0⟩
theorem FE {kk:Int}{ps:List Int}{S M:Nat}{xs:List Sv}(hv:aR kk ps=true)(hS1:1<=S)(hS:S<=1000)(h:mK S M (lI kk ps) xs):Ca E1 53 [.d (bD kk ps),.d (gN kk xs).d] (.d (gN kk xs).d,none):=by
 rcases vS hv h with ⟨hk,rfl,x,rfl,hx⟩|⟨rfl,a,b,x,y,rfl,rfl,ha,hb,hx,hy⟩|⟨rfl,a,b,c,x,y,z,rfl,rfl,ha,hb,hc,hx,hy,hz⟩
 ·rw[mk_one hk];exact rf hk hS1 hS hx
 ·obtain⟨f1,f2,f3⟩:=Bv hv hS1 hS h;obtain⟨K,hK,a0,a1,a2,b0,b1,p0,p1⟩:=((f1).j ((f2).j ((f3).j ((rf ha hS1 hS hx).j ((rf hb hS1 hS hy).j ((fJ 6 [a,b] 0 0 rfl a rfl).j ((fJ 6 [a,b] 1 1 rfl b rfl).any))))))).at 0;have e0:∀ l,gN 6 l=gW (l.map Sv.w):=fun _=>rfl
  rw[e0,o7];simp only[Qe1,Qc2]at*;obtain⟨xs,x1,x2,xc,xb,xu,xp,xq,ex⟩:=x.w.bq;obtain⟨ys,y1,y2,yc,yb,yu,yp,yq,ey⟩:=y.w.bq;simp only[ex,ey]at*;clear hK f1 f2 f3 e0 h hv hx hy ex ey;refine Ca.bO (n:=K+500) ?_;rw[aB rfl (k53:E1.fn _=_) rfl];unfold wD bD at*;generalize LK .i64 []=l0 at*;simp only[show LK .i64 [a,b]=[vI a,vI b] from rfl]at*;simp (maxSteps:=500000) [aH,f53,a0,a1,a2,b0,b1,p0,p1,most,wr1,wr2,wr3,ai.view]
 ·obtain⟨f1,f2,f3⟩:=Bv hv hS1 hS h;obtain⟨K,hK,a0,a1,a2,b0,b1,b2,p0,p1,p2⟩:=((f1).j ((f2).j ((f3).j ((rf ha hS1 hS hx).j ((rf hb hS1 hS hy).j ((rf hc hS1 hS hz).j ((fJ 6 [a,b,c] 0 0 rfl a rfl).j ((fJ 6 [a,b,c] 1 1 rfl b rfl).j ((fJ 6 [a,b,c] 2 2 rfl c rfl).any))))))))).at 0;have e0:∀ l,gN 6 l=gW (l.map Sv.w):=fun _=>rfl
  rw[e0,o7];simp only[Qe1,Qc2]at*;obtain⟨xs,x1,x2,xc,xb,xu,xp,xq,ex⟩:=x.w.bq;obtain⟨ys,y1,y2,yc,yb,yu,yp,yq,ey⟩:=y.w.bq;obtain⟨zs,z1,z2,zc,zb,zu,zp,zq,ez⟩:=z.w.bq;simp only[ex,ey,ez]at*;clear hK f1 f2 f3 e0 h hv hx hy hz ex ey ez;refine Ca.bO (n:=K+500) ?_;rw[aB rfl (k53:E1.fn _=_) rfl];unfold wD bD at*;generalize LK .i64 []=l0 at*;simp only[show LK .i64 [a,b,c]=[vI a,vI b,vI c] from rfl]at*;simp (maxSteps:=500000) [aH,f53,a0,a1,a2,b0,b1,b2,p0,p1,p2,most,wr1,wr2,wr3,ai.view]
theorem q_d (x:Rat):∃ s n d,(Sv.q x).w.d=wD s n d 0 false 0 [] []/\qD x=.a [vB s,.s 1 n,.s 1 d]:=⟨_,_,_,rfl,rfl⟩
theorem MI {k:Int}(hk:single k=true){S M:Nat}(hS1:1<=S)(hS:S<=1000){x y:Sv}(hx:x.of k S M)(hy:y.of k S M){vw ww:W}(tx:Ca E1 53 [.d (bD k []),.d vw.d] (.d x.w.d,none))(ty:Ca E1 53 [.d (bD k []),.d ww.d] (.d y.w.d,none)) :
  Ca E1 19 [.d (bD k []),.d vw.d,.d ww.d] (.d (ek k x y).w.d,none):=by
 have tv:=Ca.jg (Ca.bO (iY 0 k []));rw[(fK hk).1]at tv;obtain⟨vs,vl1,vl2,vc,vb,vu,vp,vps,ev⟩:=vw.bq;obtain⟨ws,wl1,wl2,wc,wb,wu,wp,wps,ew⟩:=ww.bq;rw[ev]at tx ⊢;rw[ew]at ty ⊢;clear ev ew;rcases bR hk with rfl|rfl|rfl|rfl|rfl
 ·obtain⟨a,rfl,ha⟩:=of1 hx;obtain⟨b,rfl,hb⟩:=of1 hy;obtain⟨K,hK,a0,a1,a2,a3⟩:=((tv).j ((tx).j ((ty).j ((Ca.jg (zC a b ae ae)).any)))).at 0;obtain⟨s1,n1,d1,e1,g1⟩:=q_d a;obtain⟨s2,n2,d2,e2,g2⟩:=q_d b;rw[pl1];obtain⟨s3,n3,d3,e3,g3⟩:=q_d (a+b);rw[g1,g2,g3]at a3;rw[e1]at a1;rw[e2]at a2;rw[e3];clear hK tv tx ty;refine Ca.bO (n:=K+300) ?_;rw[aB rfl (k19:E1.fn _=_) rfl]
  (try unfold wD at*)
  unfold bD at*;generalize LK .i64 []=l0 at*;simp[aH,f19,a0,a1,a2,a3]
 ·obtain⟨i,n,rfl,hn0,hn1,hin⟩:=of2 hx;obtain⟨j,m,rfl,hm0,hm1,hjm⟩:=of2 hy;obtain⟨K,hK,a0,a1,a2⟩:=((tv).j ((tx).j ((ty).any))).at 0;rw[pl2];have hc1:∀ n,(Sv.c i n).w.d=wD false [] [] n i 0 [] []:=fun n=>rfl
  have hc2:∀ n,(Sv.c j n).w.d=wD false [] [] n j 0 [] []:=fun n=>rfl
  unfold vN;rw[hc1]at a1;rw[hc2]at a2
  by_cases h:m<n<;>cases i<;>cases j<;>(try obtain rfl:=hin rfl)<;>(try obtain rfl:=hjm rfl)<;>(try exact absurd h ae)<;>simp only[h,Xh2,Bool.not_false,Qs1,Ql0,Bool.and_true,Bool.or_true,Bool.true_or,Xe0,decide_true,decide_false,if_true,if_false,Qh1,hc1,hc2] <;>
  (clear hK tv tx ty;refine Ca.bO (n:=K+300) ?_;rw[aB rfl (k19:E1.fn _=_) rfl];(try rw[hc1]);(try rw[hc2]);unfold wD bD at*;generalize LK .i64 []=l0 at*;simp[f19,a0,a1,a2,h])
 ·obtain⟨a,rfl,_,_,ha⟩:=of3 hx;obtain⟨b,rfl,_,_,hb⟩:=of3 hy;obtain⟨K,hK,a0,a1,a2,a3⟩:=((tv).j ((tx).j ((ty).j ((Ca.jg (Hm a b ae ae)).any)))).at 0;obtain⟨s1,n1,d1,e1,g1⟩:=q_d a;obtain⟨s2,n2,d2,e2,g2⟩:=q_d b;have ep:=pl3 a b
  by_cases hab:a<b
  ·rw[ep,if_pos hab];rw[decide_eq_true hab,g1,g2]at a3;simp only[e1,e2]at a1 a2 ⊢;clear hK tv tx ty;refine Ca.bO (n:=K+300) ?_;rw[aB rfl (k19:E1.fn _=_) rfl]
   (try unfold wD at*)
   unfold bD at*;generalize LK .i64 []=l0 at*;simp[aH,f19,a0,a1,a2,a3]
  ·rw[ep,if_neg hab];rw[decide_eq_false hab,g1,g2]at a3;simp only[e1,e2]at a1 a2 ⊢;clear hK tv tx ty;refine Ca.bO (n:=K+300) ?_;rw[aB rfl (k19:E1.fn _=_) rfl]
   (try unfold wD at*)
   unfold bD at*;generalize LK .i64 []=l0 at*;simp[aH,f19,a0,a1,a2,a3]
 ·obtain⟨u,rfl,hu⟩:=of4 hx;obtain⟨v,rfl,hv⟩:=of4 hy;obtain⟨K,hK,a0,a1,a2⟩:=((tv).j ((tx).j ((ty).any))).at 0;rw[pl4];have hc1:∀ u,(Sv.s u).w.d=wD false [] [] 0 false u [] []:=fun u=>rfl
  rw[hc1]at a1;rw[hc1]at a2;rw[hc1];clear hK tv tx ty;refine Ca.bO (n:=K+300) ?_;rw[aB rfl (k19:E1.fn _=_) rfl]
  (try unfold wD at*)
  unfold bD at*;generalize LK .i64 []=l0 at*;simp[aH,f19,a0,a1,a2]
 ·obtain⟨a,rfl,ha,la⟩:=of5 hx;obtain⟨b,rfl,hb,lb⟩:=of5 hy;obtain⟨K,hK,a0,a1,a2,a3⟩:=((tv).j ((tx).j ((ty).j ((SG hS1 hS ha hb).any)))).at 0;rw[pl5];simp only[abj]at a1 a2 ⊢;generalize jR a b=c at*;unfold bQ at*;generalize (a.map fun p=>qC p.1 p.2)=x1,(b.map fun p=>qC p.1 p.2)=x2,(c.map fun p=>qC p.1 p.2)=x3 at*;clear hK tv tx ty;refine Ca.bO (n:=K+300) ?_;rw[aB rfl (k19:E1.fn _=_) rfl]
  (try unfold wD at*)
  unfold bD at*;generalize LK .i64 []=l0 at*;simp[aH,f19,a0,a1,a2,a3]
theorem vT {k:Int}(hk:single k=true){S M:Nat}(hS1:1<=S)(hS:S<=1000){x y:Sv}(hx:x.of k S M)(hy:y.of k S M) :
  Ca E1 19 [.d (bD k []),.d x.w.d,.d y.w.d] (.d (ek k x y).w.d,none):=MI hk hS1 hS hx hy (rf hk hS1 hS hx) (rf hk hS1 hS hy)
theorem Tt {kk:Int}{ps:List Int}{S M:Nat}{xs ys:List Sv}(hv:aR kk ps=true)(hS1:1<=S)(hS:S<=1000)(hx:mK S M (lI kk ps) xs)(hy:mK S M (lI kk ps) ys){vw ww:W}(tx:Ca E1 53 [.d (bD kk ps),.d vw.d] (.d (gN kk xs).d,none))(ty:Ca E1 53 [.d (bD kk ps),.d ww.d] (.d (gN kk ys).d,none)) :
  Ca E1 19 [.d (bD kk ps),.d vw.d,.d ww.d] (.d (gN kk (kG (lI kk ps) xs ys)).d,none):=by
 have tv:=Ca.jg (Ca.bO (iY 0 kk ps));rw[hv]at tv;rcases vS hv hx with ⟨hk,rfl,x,rfl,h1⟩|⟨rfl,a,b,x1,x2,rfl,rfl,ha,hb,h1,h2⟩|⟨rfl,a,b,c,x1,x2,x3,rfl,rfl,ha,hb,hc,h1,h2,h3⟩
 ·have h6:=(fK hk).2;rcases vS hv hy with ⟨_,_,y,rfl,g1⟩|⟨h,_⟩|⟨h,_⟩
  ·unfold lI;rw[if_neg h6];rw[mk_one hk]at tx ty;show Ca E1 19 _ (.d (gN kk [ek kk x y]).d,none);rw[mk_one hk];exact MI hk hS1 hS h1 g1 tx ty
  ·exact absurd h h6
  ·exact absurd h h6
 ·obtain⟨y1,y2,rfl,g1,g2⟩:∃ y1 y2,ys=[y1,y2]/\y1.of a S M/\y2.of b S M:=by
   have hl:=hy.1
   match ys,hl with
   | [y1,y2],_=>exact⟨y1,y2,rfl,hy.2 0 _ _ rfl rfl,hy.2 1 _ _ rfl rfl⟩
  obtain⟨K,hK,a0,a1,a2,b0,b1,p0,p1⟩:=((tv).j ((tx).j ((ty).j ((vT ha hS1 hS h1 g1).j ((vT hb hS1 hS h2 g2).j ((fJ 6 [a,b] 0 0 rfl a rfl).j ((fJ 6 [a,b] 1 1 rfl b rfl).any))))))).at 0;have e0:∀ l,gN 6 l=gW (l.map Sv.w):=fun _=>rfl
  have e1:kG (lI 6 [a,b]) [x1,x2] [y1,y2]=[ek a x1 y1,ek b x2 y2]:=rfl;rw[e1,e0,o7];rw[e0,o7]at a1 a2;obtain⟨vs,vl1,vl2,vc,vb,vu,vp,vps,ev⟩:=vw.bq;obtain⟨ws,wl1,wl2,wc,wb,wu,wp,wps,ew⟩:=ww.bq;rw[ev]at a1 ⊢;rw[ew]at a2 ⊢;clear tx ty ev ew;simp only[Qe1,Qc2]at*;generalize ek a x1 y1=z1,ek b x2 y2=z2 at*;obtain⟨xs1,xm1,xn1,xc1,xb1,xu1,xp1,xq1,ex1⟩:=x1.w.bq;obtain⟨xs2,xm2,xn2,xc2,xb2,xu2,xp2,xq2,MJ⟩:=x2.w.bq;obtain⟨ys1,ym1,yn1,yc1,yb1,yu1,yp1,yq1,ey1⟩:=y1.w.bq;obtain⟨ys2,ym2,yn2,yc2,yb2,yu2,yp2,yq2,ey2⟩:=y2.w.bq;obtain⟨zs1,zm1,zn1,zc1,zb1,zu1,zp1,zq1,ez1⟩:=z1.w.bq;obtain⟨zs2,zm2,zn2,zc2,zb2,zu2,zp2,zq2,Tu⟩:=z2.w.bq;simp only[ex1,MJ,ey1,ey2,ez1,Tu]at*;clear hK tv e0 e1 hx hy hv h1 g1 h2 g2 ex1 MJ ey1 ey2 ez1 Tu;refine Ca.bO (n:=K+500) ?_;rw[aB rfl (k19:E1.fn _=_) rfl];unfold wD bD at*;generalize LK .i64 []=l0 at*;simp only[show LK .i64 [a,b]=[vI a,vI b] from rfl]at*;simp (maxSteps:=500000) [aH,f19,a0,a1,a2,b0,b1,p0,p1,most,wr1,wr2,wr3,ai.view]
 ·obtain⟨y1,y2,y3,rfl,g1,g2,g3⟩:∃ y1 y2 y3,ys=[y1,y2,y3]/\y1.of a S M/\y2.of b S M/\y3.of c S M:=by
   have hl:=hy.1
   match ys,hl with
   | [y1,y2,y3],_=>exact⟨y1,y2,y3,rfl,hy.2 0 _ _ rfl rfl,hy.2 1 _ _ rfl rfl,hy.2 2 _ _ rfl rfl⟩
  obtain⟨K,hK,a0,a1,a2,b0,b1,b2,p0,p1,p2⟩:=((tv).j ((tx).j ((ty).j ((vT ha hS1 hS h1 g1).j ((vT hb hS1 hS h2 g2).j ((vT hc hS1 hS h3 g3).j ((fJ 6 [a,b,c] 0 0 rfl a rfl).j ((fJ 6 [a,b,c] 1 1 rfl b rfl).j ((fJ 6 [a,b,c] 2 2 rfl c rfl).any))))))))).at 0;have e0:∀ l,gN 6 l=gW (l.map Sv.w):=fun _=>rfl
  have e1:kG (lI 6 [a,b,c]) [x1,x2,x3] [y1,y2,y3]=[ek a x1 y1,ek b x2 y2,ek c x3 y3]:=rfl;rw[e1,e0,o7];rw[e0,o7]at a1 a2;obtain⟨vs,vl1,vl2,vc,vb,vu,vp,vps,ev⟩:=vw.bq;obtain⟨ws,wl1,wl2,wc,wb,wu,wp,wps,ew⟩:=ww.bq;rw[ev]at a1 ⊢;rw[ew]at a2 ⊢;clear tx ty ev ew;simp only[Qe1,Qc2]at*;generalize ek a x1 y1=z1,ek b x2 y2=z2,ek c x3 y3=z3 at*;obtain⟨xs1,xm1,xn1,xc1,xb1,xu1,xp1,xq1,ex1⟩:=x1.w.bq;obtain⟨xs2,xm2,xn2,xc2,xb2,xu2,xp2,xq2,MJ⟩:=x2.w.bq;obtain⟨xs3,xm3,xn3,xc3,xb3,xu3,xp3,xq3,ZJ⟩:=x3.w.bq;obtain⟨ys1,ym1,yn1,yc1,yb1,yu1,yp1,yq1,ey1⟩:=y1.w.bq;obtain⟨ys2,ym2,yn2,yc2,yb2,yu2,yp2,yq2,ey2⟩:=y2.w.bq;obtain⟨ys3,ym3,yn3,yc3,yb3,yu3,yp3,yq3,ey3⟩:=y3.w.bq;obtain⟨zs1,zm1,zn1,zc1,zb1,zu1,zp1,zq1,ez1⟩:=z1.w.bq;obtain⟨zs2,zm2,zn2,zc2,zb2,zu2,zp2,zq2,Tu⟩:=z2.w.bq;obtain⟨zs3,zm3,zn3,zc3,zb3,zu3,zp3,zq3,ez3⟩:=z3.w.bq;simp only[ex1,MJ,ZJ,ey1,ey2,ey3,ez1,Tu,ez3]at*;clear hK tv e0 e1 hx hy hv h1 g1 h2 g2 h3 g3 ex1 MJ ZJ ey1 ey2 ey3 ez1 Tu ez3;refine Ca.bO (n:=K+500) ?_;rw[aB rfl (k19:E1.fn _=_) rfl];unfold wD bD at*;generalize LK .i64 []=l0 at*;simp only[show LK .i64 [a,b,c]=[vI a,vI b,vI c] from rfl]at*;simp (maxSteps:=500000) [aH,f19,a0,a1,a2,b0,b1,b2,p0,p1,p2,most,wr1,wr2,wr3,ai.view]
theorem Tv {kk:Int}{ps:List Int}{S M:Nat}{xs ys:List Sv}(hv:aR kk ps=true)(hS1:1<=S)(hS:S<=1000)(hx:mK S M (lI kk ps) xs)(hy:mK S M (lI kk ps) ys) :
  Ca E1 19 [.d (bD kk ps),.d (gN kk xs).d,.d (gN kk ys).d] (.d (gN kk (kG (lI kk ps) xs ys)).d,none):=Tt hv hS1 hS hx hy (FE hv hS1 hS hx) (FE hv hS1 hS hy)
theorem sM {k:Int}(hk:single k=true):Ca E1 35 [.d (bD k [])] (.d (gX k).w.d,none):=by
 have tv:=Ca.jg (Ca.bO (iY 0 k []));rw[(fK hk).1]at tv;have e2:∀ b,W.d (.mk false [] [] 0 b 0 [] [])=wD false [] [] 0 b 0 [] []:=fun _=>rfl
 have eq0:(Sv.q 0).w.d=wD false [] [] 0 false 0 [] []:=by
  have h:=vL;obtain⟨s,n,d,e1,g1⟩:=q_d 0;rw[e1];rw[g1]at h;simp only[D.a.injEq,Xg2,D.v.injEq,Value.bool.injEq,D.s.injEq,true_and,and_true]at h;obtain⟨rfl,rfl,rfl⟩:=h;rfl
 have e:(gX k).w.d=wD false [] [] 0 (k==2) 0 [] []:=by
  rcases bR hk with rfl|rfl|rfl|rfl|rfl
  ·exact eq0
  ·exact e2 _
  ·exact eq0
  ·exact e2 _
  ·exact e2 _
 rw[e];obtain⟨m0,a0⟩:=(tv).any;clear e e2 eq0 tv;refine Ca.bO (n:=m0+300) ?_;replace a0:=a0 m0 ae;rw[aB rfl (k35:E1.fn _=_) rfl];unfold wD bD at*;simp only[show LK .i64 []=[] from rfl]at*;rcases bR hk with rfl|rfl|rfl|rfl|rfl<;>simp[aH,f35,a0]
theorem XT {kk:Int}{ps:List Int}(hv:aR kk ps=true):Ca E1 35 [.d (bD kk ps)] (.d (gN kk ((lI kk ps).map gX)).d,none):=by
 have h:mK 1 1 (lI kk ps) ((lI kk ps).map gX):=xH ae (jS hv);have tv:=Ca.jg (Ca.bO (iY 0 kk ps));rw[hv]at tv;have e0:∀ l,gN 6 l=gW (l.map Sv.w):=fun _=>rfl
 rcases vS hv h with ⟨hk,rfl,x,hxs,hx⟩|⟨rfl,a,b,x,y,rfl,hxs,ha,hb,hx,hy⟩|⟨rfl,a,b,c,x,y,z,rfl,hxs,ha,hb,hc,hx,hy,hz⟩
 ·rw[show lI kk []=[kk] from if_neg (fK hk).2,Qe1,Qc2,mk_one hk];exact sM hk
 ·clear h hxs;rw[show lI 6 [a,b]=[a,b] from rfl,e0,o7];simp only[Qe1,Qc2];obtain⟨K,hK,a0,b0,p0,b1,p1⟩:=(tv.j ((sM ha).j ((fJ 6 [a,b] 0 0 rfl a rfl).j ((sM hb).j ((fJ 6 [a,b] 1 1 rfl b rfl).any))))).at 0;obtain⟨s0,l0,r0,c0,i0,u0,o0,g0,e0x⟩:=(gX a).w.bq;obtain⟨s1,l1,r1,c1,i1,u1,o1,g1,e1x⟩:=(gX b).w.bq;simp only[e0x,e1x]at*;clear hK tv e0 hv hx hy e0x e1x;refine Ca.bO (n:=K+500) ?_;rw[aB rfl (k35:E1.fn _=_) rfl];unfold wD bD at*;generalize LK .i64 []=l0 at*;simp only[show LK .i64 [a,b]=[vI a,vI b] from rfl]at*;simp (maxSteps:=500000) [aH,f35,a0,b0,p0,b1,p1,most,wr1,wr2,wr3,ai.view]
 ·clear h hxs;rw[show lI 6 [a,b,c]=[a,b,c] from rfl,e0,o7];simp only[Qe1,Qc2];obtain⟨K,hK,a0,b0,p0,b1,p1,b2,p2⟩:=(tv.j ((sM ha).j ((fJ 6 [a,b,c] 0 0 rfl a rfl).j ((sM hb).j ((fJ 6 [a,b,c] 1 1 rfl b rfl).j ((sM hc).j ((fJ 6 [a,b,c] 2 2 rfl c rfl).any))))))).at 0;obtain⟨s0,l0,r0,c0,i0,u0,o0,g0,e0x⟩:=(gX a).w.bq;obtain⟨s1,l1,r1,c1,i1,u1,o1,g1,e1x⟩:=(gX b).w.bq;obtain⟨s2,l2,r2,c2,i2,u2,o2,g2,e2x⟩:=(gX c).w.bq;simp only[e0x,e1x,e2x]at*;clear hK tv e0 hv hx hy hz e0x e1x e2x;refine Ca.bO (n:=K+500) ?_;rw[aB rfl (k35:E1.fn _=_) rfl];unfold wD bD at*;generalize LK .i64 []=l0 at*;simp only[show LK .i64 [a,b,c]=[vI a,vI b,vI c] from rfl]at*;simp (maxSteps:=500000) [aH,f35,a0,b0,p0,b1,p1,b2,p2,most,wr1,wr2,wr3,ai.view]
theorem Im {kk:Int}{ps:List Int}(hv:aR kk ps=true){w:W}(ht:w.oP)(hl:w.bM=true)(hc:bU kk ps w=true):∃ xs,mK 3 8 (lI kk ps) xs/\w=gN kk xs:=by
 have hs:=jS hv;unfold bU at hc;rw[hv]at hc
 by_cases h6:kk=6
 ·subst h6;simp only[Ql0,ne_eq,not_true_eq_false,if_false,Qa2,beq_iff_eq]at hc;obtain⟨⟨h1,h2⟩,h4⟩:=hc;obtain⟨xs,hxs,hof⟩:=Ed hs h1 (KJ ht hl) h4;refine⟨xs,hof,?_⟩;rw[OC h2,hxs];rfl
 ·obtain⟨rfl,hk⟩:=sK hv h6;simp only[Ql0,ne_eq,h6,not_false_eq_true,if_true]at hc;obtain⟨h1,h2⟩:=Bo w ht hl;obtain⟨x,rfl,hx⟩:=Tf hk ae h1 h2 hc;exact⟨[x],MH hk hx,(mk_one hk x).symm⟩
end Fi.S
