import Derived.Test.YtgngjdakilfmoaaGreatDoorFiC
import Derived.Tactics
import Derived.Orders
set_option linter.unusedVariables false
set_option linter.unusedSimpArgs false
namespace Fi
open Go
section
variable {mn:Prop}
theorem fM (t:Tmp):gu [] t=none:=by simp[gu]
theorem uh (aL:List (Option Tmp))(d:Option Tmp)(t:Tmp):gu (aL++[d]) t=if d=some t then some aL.length else gu aL t:=by
 unfold gu;rw[List.reverse_append,List.reverse_singleton,List.singleton_append]
 by_cases h:d=some t
 ·subst h;simp[List.idxOf?,Xv0]
 ·have hb:(d==some t)=false:=by simpa using h
  simp only[List.idxOf?,Xv0,hb,h,if_false];cases hc:List.findIdx? (fun x=>x==some t) aL.reverse with
  | none=>simp
  | some i =>
   simp only[Q11,Qh1,if_false,Qb0,Xi2]
   congr 1
   omega
theorem rA {aL:List (Option Tmp)}{t:Tmp}{j:Nat}(h:gu aL t=some j):aL[j]?=some (some t):=by
 unfold gu at h;split at h<;>simp at h;rename_i i hi;subst h;rw[List.idxOf?,Qu2]at hi;obtain⟨hl,h1,_⟩:=hi;rw[List.length_reverse]at hl;rw[List.getElem_reverse]at h1;rw[Qa1 ae];simpa using h1
theorem eval_put (a:Act)(d:Option Tmp)(x:Value)(t:Tmp)(hd:∀ u,d=some u->u<a.tmps.size):(a.put d x).eval (.tmp t)=if d=some t then x else a.eval (.tmp t):=by
 cases d with
 | none=>simp[Act.put]
 | some u =>
  have hu:=hd u rfl;simp only[Act.put,Act.eval,Qe0]
  by_cases h:u=t
  ·subst h;simp[hu]
  ·rw[if_neg h,Qs2,Qs2,Array.getElem?_setIfInBounds_ne h]
theorem Ea (a:Act)(d:Option Tmp)(x:Value):(a.put d x).tmps.size=a.tmps.size:=by cases d<;>simp[Act.put]
theorem put_defers (a:Act)(d:Option Tmp)(x:Value):(a.put d x).defers=a.defers:=by cases d<;>rfl
section tmps
variable {P:Program} {E:Env} {cx:Cx} {σ:Nat->Option FuncId} {β β':Map} {I I' Wr:Nat->Prop} {wd:Nat->Prop} {w w':World} {n:Nat} {vars:List FV} {env:List FV} {aL:List (Option Tmp)} {a:Act}
structure bn (σ:Nat->Option FuncId)(β:Map)(I:Nat->Prop)(w:World)(n:Nat)(cx:Cx)(vars:List FV)(aL:List (Option Tmp))(env:List FV)(a:Act):Prop where
 size:a.tmps.size=cx.ntmps
 var:∀ (j:Nat) (t:Tmp) (y:FV),cx.vars[j]?=some t->gu aL t=none->vars[j]?=some y->aI σ β I w n y (a.eval (.tmp t))
 loc:∀ (t:Tmp) (j:Nat) (y:FV),gu aL t=some j->env[j]?=some y->aI σ β I w n y (a.eval (.tmp t))
theorem bn.mono (h:bn σ β I w n cx vars aL env a)(hm:∀ k v x,β k v=some x->β' k v=some x)(hi:∀ b,I b->I' b)(hk:∀ b,I b->w'.heap[b]?=w.heap[b]?):bn σ β' I' w' n cx vars aL env a :=
 ⟨h.size,fun j t y h1 h2 h3=>(h.var j t y h1 h2 h3).mono hm hi hk,fun t j y h1 h2=>(h.loc t j y h1 h2).mono hm hi hk⟩
theorem bn.ext (h:bn σ β I w n cx vars aL env a)(hx:Ext mn β β' I I' Wr w w'):bn σ β' I' w' n cx vars aL env a:=h.mono hx.bm hx.im hx.fO
theorem bn.put (h:bn σ β I w n cx vars aL env a)(hl:env.length=aL.length){d:Option Tmp}(hd:xR cx d=true){v:FV}{x:Value}(hr:aI σ β I w n v x) :
  bn σ β I w n cx vars (aL++[d]) (env++[v]) (a.put d x):=by
 have hd':∀ u,d=some u->u<a.tmps.size:=by
  intro u hu;subst hu;rw[h.size];simpa[xR] using hd
 refine⟨by rw[Ea];exact h.size,?_,?_⟩
 ·intro j t y h1 h2 h3;rw[uh]at h2;split at h2
  ·cases h2
  ·rename_i hne;rw[eval_put _ _ _ _ hd',if_neg hne];exact h.var j t y h1 h2 h3
 ·intro t j y h1 h2;rw[uh]at h1;rw[eval_put _ _ _ _ hd'];split at h1
  ·rename_i he;cases h1;rw[if_pos he];rw[<-hl]at h2;simp at h2;subst h2;exact hr
  ·rename_i hne;rw[if_neg hne];have hj:=(Qy1.1 (rA h1)).1;rw[Qa0 ae]at h2;exact h.loc t j y h1 h2
theorem oK {l:List Tmp}{t:Tmp}{j:Nat}(h:l.idxOf? t=some j):l[j]?=some t:=by
 rw[List.idxOf?,Qu2]at h;obtain⟨hl,h1,_⟩:=h;rw[Qa1 hl];simpa using h1
theorem bn.args (h:bn σ β I w n cx vars aL env a)(bA:∀ f g,cx.gid f=some g->σ g=some f)(hG:dX E σ I w){st:St}(hn:st.base.length=n)(hv:st.vars=vars)(xs:List Operand) :
  bX P E cx σ β I w st env aL a.eval xs:=by
 intro ty x y f hm hc hf;clear hm;subst hn;subst hv;unfold jb at hc;split at hc
 ·rename_i t;split at hc
  ·rename_i j hj;cases hc;exact h.loc t j f hj hf
  ·rename_i hno;split at hc<;>simp at hc;subst hc;rename_i j hj;exact h.var j t f (oK hj) hno hf
 ·split at hc<;>simp at hc;subst hc;rename_i hx;simp only[dw,Qe0]at hf;subst hf;exact .d (ug bA hx)
 ·split at hc<;>simp at hc;subst hc;rename_i hx;simp only[dw,Qe0]at hf;subst hf;exact .d (.fn (bA _ _ hx))
 ·cases hc;simp only[dw]at hf;split at hf<;>simp at hf;subst hf;rename_i z hz;obtain⟨h1,h2,h3,_⟩:=hG _ _ hz;exact .rc h1 h2 h3
theorem bn.guard (h:bn σ β I w n cx vars aL env a){ops:Array Oper}{o:Oper}(hpre:∀ (j:Nat) (d:Option Tmp),aL[j]?=some d->(ops[j]?).bind (·.dst)=d)(hg:qX aL o.guard=true){b:Bool}(hb:mh env o.guard=some b) :
  Region.wanted o (yielded ops a.tmps)=b:=by
 unfold Region.wanted;unfold mh at hb;cases hgd:o.guard with
 | none=>rw[hgd]at hb;simpa using hb
 | some p =>
  obtain⟨j,want⟩:=p;rw[hgd]at hb hg;simp only[qX]at hg;split at hg
  ·rename_i t ht;have hl:gu aL t=some j:=by simpa using hg
   have hd:=hpre j _ ht;simp only at hb ⊢;have hy:yielded ops a.tmps j=match a.tmps[t]? with|some (.bool b)=>some b|_=>none:=by
    unfold yielded;rw[hd];rfl
   rw[hy];cases hev:env[j]? with
   | none=>rw[hev]at hb;cases hb
   | some y =>
    have hr:=h.loc t j y hl hev;rw[hev]at hb;split at hb
    ·rename_i c he;cases he;cases hb;cases hr with
     | d hr =>
      generalize hz:a.eval (.tmp t)=z at hr;cases hr;have:a.tmps[t]?=some (.bool c):=by
       simp only[Act.eval,Qs2]at hz;cases hq:a.tmps[t]? with
       | none=>rw[hq]at hz;simp[undef]at hz
       | some q=>rw[hq]at hz;simp at hz;rw[hz]
      rw[this];cases c<;>cases want<;>rfl
    ·rename_i he;cases he;cases hb;cases hr with
     | d hr =>
      generalize hz:a.eval (.tmp t)=z at hr;cases hr with
      | @t _ vs hl' h2 =>
       have hvs:vs=#[]:=by simpa using hl'
       subst hvs;simp only[Act.eval,Qs2]at hz;cases hq:a.tmps[t]? with
       | none=>simp
       | some q=>rw[hq]at hz;simp at hz;rw[hz];simp
    ·cases hb
  ·cases hg
end tmps
end
section
theorem jm.back {n:Nat}{st st':St}{wd:Nat->Prop}(h:jm n st' wd)(k:st.aX=true->st'.aX=true):jm n st wd:=⟨h.1,fun hd=>h.2 (k hd)⟩
section yx
variable {σ:Nat->Option FuncId} {β:Map} {I Wr:Nat->Prop} {wd:Nat->Prop} {w:World} {n:Nat}
theorem aI.yx:(v:FV)->{x:Value}->aI σ β I w n (v.az n) x->aI σ β I w n v x
 | .u,x,_=>.u x
 | .d y,x,h=>h
 | .r (.loc i) off,x,h=>by
  simp only[FV.az]at h;cases h with
  | r h=>exact .r (p:=.loc i) h
 | .r (.old i) off,x,h=>h
 | .e (.loc i) av sz j off,x,h=>by
  simp only[FV.az]at h;cases h with
  | e h=>exact .e (p:=.loc i) h
 | .e (.old i) av sz j off,x,h=>h
 | .rc y,x,h=>h
 | .ls (.loc i) av sz off len,x,h=>by
  simp only[FV.az]at h;cases h with
  | ls h hl ho=>exact .ls (p:=.loc i) h hl ho
 | .ls (.old i) av sz off len,x,h=>h
 | .m (.loc i),x,h=>by
  simp only[FV.az]at h;cases h with
  | m h=>exact .m (p:=.loc i) h
 | .m (.old i),x,h=>h
 | .z sz,x,h=>h
 | .f g first captured,x,h=>by
  simp only[FV.az,fI]at h;cases h with
  | f h h1 h2 hv hu =>
   refine .f h (by simpa using h1) (by simpa using h2) (fun i c x hc hx => ?_) (fun i c x hc hx => ?_)
   ·exact aI.yx c (hv i _ x (by rw[Qb1,hc];rfl) hx)
   ·exact aI.yx c (hu i _ x (by rw[Qb1,hc];rfl) hx)
 | .a cs,x,h=>by
  simp only[FV.az,fI]at h;cases h with
  | a hl h =>
   refine .a (by simpa using hl) (fun i c x hc hx => ?_);exact aI.yx c (h i _ x (by rw[Qb1,hc];rfl) hx)
 | .t cs,x,h=>by
  simp only[FV.az,fI]at h;cases h with
  | t hl h =>
   refine .t (by simpa using hl) (fun i c x hc hx => ?_);exact aI.yx c (h i _ x (by rw[Qb1,hc];rfl) hx)
termination_by v=>sizeOf v
decreasing_by
 all_goals
  have:=List.sizeOf_lt_of_mem (Qa2 hc);simp;omega
theorem ah.mM {o:ah}{cs:List FV}{n:Nat}(h:o=.box cs):o.az n=.box (cs.map (FV.az n)):=by subst h;simp[ah.az,fI]
theorem bf.yx {H H':List ah}(h:bf σ n β I Wr wd H w)(hl:H.length<=H'.length)(hm:∀ (k:Nat) (o':ah),H'[k]?=some o'->H[k]?=some o'\/H[k]?=some (o'.az n)):bf σ n β I Wr wd H' w:=by
 have hlive:∀ {k:Nat} {o':ah},H'[k]?=some o'->∃ o,H[k]?=some o/\(∀ m,o.live β m=o'.live β m)/\(o=o'\/o=o'.az n):=by
  intro k o' hk;rcases hm k o' hk with h1|h1
  ·exact⟨_,h1,fun _=>rfl,.inl rfl⟩
  ·exact⟨_,h1,fun m=>ah.wL _ _ _,.inr rfl⟩
 refine⟨h.mf,h.blt,h.kG,fun k v x hx=>Qk1 (h.dom k v x hx) hl,?_,?_,?_,?_,?_,?_,?_⟩
 ·intro k av sz es v x h1 h2;rcases hm k _ h1 with h3|h3
  ·exact h.mO _ _ _ _ _ _ h3 h2
  ·exact h.mO _ _ _ _ _ _ h3 h2
 ·intro k o b bo cap h1 h2;obtain⟨o',h3,h4,_⟩:=hlive h1;rw[<-h4]at h2;exact h.wr k o' b bo cap h3 h2
 ·intro k cs b bo cap h1 h2;rcases hm k _ h1 with h3|h3
  ·exact h.box k cs b bo cap h3 h2
  ·rw[ah.mM rfl]at h3;obtain⟨a0,c,e',a1,a2,a3⟩:=h.box k _ b bo cap h3 h2;refine⟨a0,c,e',a1,by simpa using a2,fun j f x e1 e2 => ?_⟩;exact aI.yx f (a3 j _ x (by rw[Qb1,e1];rfl) e2)
 ·intro k av sz es b bo cap h1 h2;rcases hm k _ h1 with h3|h3
  ·exact h.row _ _ _ _ _ _ _ h3 h2
  ·exact h.row _ _ _ _ _ _ _ h3 h2
 ·intro k av sz es b bo cap h1 h2;rcases hm k _ h1 with h3|h3
  ·exact h.h_ _ _ _ _ _ _ _ h3 h2
  ·exact h.h_ _ _ _ _ _ _ _ h3 h2
 ·intro k k' o1 o2 b bo cap wF cap' h1 h2 h3 h4;obtain⟨o1',h5,h6,_⟩:=hlive h1;obtain⟨o2',h7,h8,_⟩:=hlive h2;rw[<-h6]at h3;rw[<-h8]at h4;exact h.inj k k' o1' o2' b bo cap wF cap' h5 h7 h3 h4
 ·intro k es b bo cap h1 h2;rcases hm k _ h1 with h3|h3
  ·exact h.map _ _ _ _ _ h3 h2
  ·exact h.map _ _ _ _ _ h3 h2
end yx
section seq
variable {P:Program} {E:Env} {cx:Cx} {σ:Nat->Option FuncId} {Wr:Nat->Prop} {wd:Nat->Prop} {rec:Nat->List FV->List ah->bJ}
theorem nW (bA:∀ f g,cx.gid f=some g->σ g=some f)(hB:Bodies P E σ)(hrl:fC rec)(hrec:kC P E σ rec){q:Bool}{β:Map}{I:Nat->Prop}{w:World}{st st':St}{aL:List (Option Tmp)}{env:List FV}{a:Act}{o:Oper}{k:K}{v:FV}
  (hG:dX E σ I w) (hT:bX P E cx σ β I w st env aL a.eval o.op.operands.toList) (hc:aY P cx aL o=some k) (hk:runK E rec q st env k=some (v,st'))
  (hdt:k.loud q=true->jm st.base.length st' wd) (hS:fQ σ β I Wr wd w st) :
  Yields P o a.eval w (Post E.mn σ st.base.length (st.base++st.loc).length β I Wr wd w st' v) :=
 Oz (fun _=>rfl) (fun _=>rfl) bA hB hrl hrec hG hc hk hdt hS hT
theorem zR (bA:∀ f g,cx.gid f=some g->σ g=some f)(hB:Bodies P E σ)(hrl:fC rec)(hrec:kC P E σ rec){q:Bool}{β:Map}{I:Nat->Prop}{w:World}{st st':St}{aL:List (Option Tmp)}{env:List FV}{a:Act}{o:Oper}{k:K}{v:FV}
  (hG:dX E σ I w) (hT:bX P E cx σ β I w st env aL a.eval o.op.operands.toList) (hc:aY P cx aL o=some k.IL) (hk:runK E rec q st env k=some (v,st'))
  (hdt:k.loud q=true->jm st.base.length st' wd) (hS:fQ σ β I Wr wd w st) :
  Yields P o a.eval w (Post E.mn σ st.base.length (st.base++st.loc).length β I Wr wd w st' v):=by
 cases k with
 | mF f as ps =>
  obtain⟨_,st1,h1,h2⟩:=Gx hk;have hd:jm st.base.length st1 wd:=by
   have:=hdt rfl;rcases h2 with ⟨rfl,_⟩|⟨_,rfl⟩
   ·exact this
   ·exact this
  have hy:=nW bA hB hrl hrec hG hT hc h1 (fun _=>hd) hS;rcases h2 with ⟨rfl,_⟩|⟨e,rfl⟩
  ·exact hy
  ·have hkp:=qf hrl h1;refine hy.mono fun x w' ⟨β',I',g1,g2,g3,g4⟩=>⟨β',I',g1,?_,g3,g4⟩
   have hlen:st.loc.length<=st1.loc.length:=by
    have h7:=congrArg List.length e;simp only[Qq0,Qj1]at h7;omega
   refine g2.yx (by simp only[Qb0,Xb1];omega) (fun k o' hk' => ?_);have hb1:=hkp.base;simp only at hk' ⊢;rcases Qg0 k st1.base.length with hlt|hge
   ·rw[Qa0 hlt]at hk' ⊢;exact .inl hk'
   ·rw[Qc0 hge]at hk' ⊢;rcases Qg0 (k-st1.base.length) st.loc.length with h5|h5
    ·rw[Qa0 h5]at hk'
     right
     have h6:(st1.loc.take st.loc.length)[k-st1.base.length]?=some (o'.az st.base.length):=by rw[e,Qb1,hk'];rfl
     rw[Qp0,if_pos h5]at h6;exact h6
    ·rw[Qc0 h5,Qx2]at hk'
     left
     rw[<-hk']
     congr 1
     omega
 | jl n p x ps=>exact nW (k:=.store n p x) bA hB hrl hrec hG hT hc (oI hk).2 (fun _=>hdt rfl) hS
 | nO agg n p ps=>exact nW (k:=.load agg n p) bA hB hrl hrec hG hT hc (kY hk).2.1 (fun h=>by simp[K.loud]at h) hS
 | jL agg n p=>exact nW (k:=.load agg n p) bA hB hrl hrec hG hT hc (nR hk).1 (fun h=>by simp[K.loud]at h) hS
 | _=>exact nW bA hB hrl hrec hG hT hc hk hdt hS
theorem uL (bA:∀ f g,cx.gid f=some g->σ g=some f)(hB:Bodies P E σ)(hrl:fC rec)(hrec:kC P E σ rec){ops:Array Oper}{Q:Exit->Act->World->Prop} :
  ∀ (l:List Oper) {ks:List jE} {aL:List (Option Tmp)} {env ev:List FV} {st st':St} {a:Act} {w:World} {β:Map} {I:Nat->Prop},
   mP P cx l aL=some ks->eu E rec ks st env=some (st',ev)->env.length=aL.length->(∀ (j:Nat) (d:Option Tmp),aL[j]?=some d->(ops[j]?).bind (·.dst)=d) ->
   (∀ j,l[j]?=ops[aL.length+j]?)->jm st.base.length st' wd->fQ σ β I Wr wd w st->dX E σ I w->bn σ β I w st.base.length cx st.vars aL env a ->
   (∀ β' I' w' a',Ext E.mn β β' I I' Wr w w'->bf σ st.base.length β' I' Wr wd (st'.base++st'.loc) w'->bn σ β' I' w' st.base.length cx st.vars (aL++l.map (·.dst)) ev a'->ev.length=(aL++l.map (·.dst)).length->a'.defers=a.defers->Q .normal a' w') ->
   wpList P ops Q l a w
 | [],ks,aL,env,ev,st,st',a,w,β,I,hc,hr,hl,hpre,hat,hm,hS,hG,hT,hQ=>by
  simp[mP]at hc;subst hc;simp only[eu,Qe0,Qm0]at hr;obtain⟨rfl,rfl⟩:=hr;exact hQ β I w a (Ext.refl _ _ _ _) hS (by simpa using hT) (by simpa using hl) rfl
 | o::l,ks,aL,env,ev,st,st',a,w,β,I,hc,hr,hl,hpre,hat,hm,hS,hG,hT,hQ=>by
  simp only[mP]at hc;split at hc
  ·rename_i hgd;simp only[Qd0]at hgd;split at hc<;>simp at hc;subst hc;rename_i k ks hk hks;have h0:ops[aL.length]?=some o:=by simpa using(hat 0).symm
   have hpre':∀ (j:Nat) (d:Option Tmp),(aL++[o.dst])[j]?=some d->(ops[j]?).bind (·.dst)=d:=by
    intro j d hj;rcases Qg0 j aL.length with h'|h'
    ·rw[Qa0 h']at hj;exact hpre j d hj
    ·rw[Qc0 h']at hj;have hj0:j-aL.length=0:=by
      rcases Qr2 (j-aL.length) with h|h
      ·exact h
      ·rw[Qp1 (by simp;omega)]at hj;cases hj
     rw[hj0]at hj;have:j=aL.length:=ae;subst this;rw[h0];simpa using hj
   have hat':∀ j,l[j]?=ops[(aL++[o.dst]).length+j]?:=by
    intro j;have:=hat (j+1);simp only[Qb0,Xi2];rw[show aL.length+1+j=aL.length+(j+1) by omega,<-this];simp
   simp only[eu]at hr;unfold wpList;split at hr
   ·cases hr
   ·rename_i hgv;have hw:=hT.guard (ops:=ops) hpre hgd.1 hgv;rw[hw];simp only[Qh1,if_false];have hT':=hT.put hl hgd.2 (v:=.d (.t [])) (x:=undef) l5;refine uL bA hB hrl hrec l hks hr (by simp[hl]) hpre' hat' hm hS hG hT' (fun β' I' w' a' h1 h2 h3 h4 h5=>hQ β' I' w' a' h1 h2 (by simpa using h3) (by simpa using h4) (by rw[h5,put_defers]))
   ·rename_i hgv;split at hr
    ·cases hr
    ·rename_i v st1 hrun;have hw:=hT.guard (ops:=ops) hpre hgd.1 hgv;rw[hw];simp only[if_true];have hkept:=qf hrl hrun;have afB:=lY hrl _ hr;have hm1:jm st.base.length st1 wd:=hm.back afB.aX;refine .inl ((nW bA hB hrl hrec hG (hT.args bA hG rfl rfl _) hk hrun (fun _=>hm1) hS).wp (fun x w' hp => ?_));obtain⟨β1,I1,hx,hS1,hR,_⟩:=hp;have hT1:=(hT.ext hx).put hl hgd.2 hR;rw[<-hkept.base,<-hkept.vars]at hT1;rw[<-hkept.base]at hS1;refine uL bA hB hrl hrec l hks hr (by simp[hl]) hpre' hat' (by rw[hkept.base];exact hm) hS1 (hG.mono hx.im hx.fO) hT1 (fun β' I' w' a' h1 h2 h3 h4 h5 => ?_);rw[hkept.base]at h2 h3;rw[hkept.vars]at h3;exact hQ β' I' w' a' (hx.trans h1) h2 (by simpa using h3) (by simpa using h4) (by rw[h5,put_defers])
  ·cases hc
end seq
end
section
def St.H (st:St):List ah:=st.base++st.loc
section run
variable {E:Env} {rec:Nat->List FV->List ah->bJ} {q:Bool} {st st':St} {env:List FV} {k:K} {v:FV}
theorem zS {st2:St}(h:st2.vars=st.vars)(x:Arg):dw E st2 env x=dw E st env x:=by cases x<;>simp[dw,h]
theorem wM {st2:St}(h:st2.vars=st.vars):∀ xs:List Arg,fF E st2 env xs=fF E st env xs
 | []=>rfl
 | x::xs=>by simp only[fF,zS h,wM h xs]
theorem lI (rs:List Ref)(st:St):(aK st rs).H.length=st.H.length:=by
 simp[St.H,(Kept.aK rs st).base,o9]
theorem Yv (hr:fC rec)(h:runK E rec q st env k=some (v,st')):st.H.length<=st'.H.length:=by
 have hs:∀ {x y:FV} {a b:St},some (x,a)=some (y,b)->a=b:=fun h=>by cases h;rfl
 have hfull:∀ {q:Bool} {st':St} {g:Nat} {xs:List FV} {rows:List Ref},dE rec q st g xs rows=some (v,st')->st.H.length<=st'.H.length:=by
  intro q st' g xs rows h;unfold dE at h;split at h
  ·split at h
   ·cases hs h;exact Qd2 _
   ·split at h
    ·cases h
    ·cases hs h;exact Nat.le_of_eq (lI _ _).symm
  ·rename_i B hB;split at h
   ·cases h
   ·have:=hr _ _ _ _ _ hB;cases hs h;simp only[St.H,Xe2];have hl:=lI rows st;simp only[St.H,Qj1]at this hl;rw[hl]at this;exact this
  ·cases h
 have hcall:∀ {q:Bool} {st':St} {g:Nat} {xs:List FV},gz rec q st g xs=some (v,st')->st.H.length<=st'.H.length:=by
  intro q st' g xs h;unfold gz at h;split at h
  ·cases h
  ·split at h
   ·unfold eT at h;split at h
    ·split at h
     ·cases hs h;exact Qd2 _
     ·split at h
      ·cases h
      ·cases hs h;exact Nat.le_of_eq (lI _ _).symm
    ·split at h
     ·cases hs h;simp[St.H]
     ·split at h
      ·cases h
      ·cases hs h;have:=lI (xs.flatMap FV.rows) st;simp only[St.H,Qb0,Qj1]at this ⊢;omega
    ·cases h
   ·exact hfull h
 have ac2:∀ {g:Nat} {xs:List FV},eB E rec st g xs=some (v,st')->st.H.length<=st'.H.length:=by
  intro g xs h;obtain⟨st1,h1,h2⟩:=lH h;rcases h2 with ⟨rfl,_⟩|⟨_,rfl⟩
  ·exact hcall h1
  ·have:=(lW hr h1).base;simp only[St.H,Qb0,Xb1];omega
 cases k
 case call g args =>
  simp only[runK]at h;split at h
  ·exact hcall h
  ·cases h
 case mE f args =>
  simp only[runK]at h;split at h
  ·exact hcall h
  ·exact hcall h
  ·cases h
 case rJ g args =>
  simp only[runK]at h;split at h
  ·exact hfull h
  ·cases h
 case jL agg n p =>
  replace h:=(nR h).1;simp only[runK]at h
  (repeat' split at h)<;>first
   | (cases h;done)
   | (cases hs h;exact Qd2 _)
 case mF f args ps =>
  simp only[runK]at h;split at h
  ·split at h
   ·exact ac2 h
   ·exact ac2 h
   ·cases h
  ·cases h
 case nO agg n p ps =>
  replace h:=(kY h).2.1;simp only[runK]at h
  (repeat' split at h)<;>first
   | (cases h;done)
   | (cases hs h;exact Qd2 _)
 case jl n p x ps =>
  replace h:=(oI h).2;simp only[runK]at h
  (repeat' split at h)<;>first
   | (cases h;done)
   | (cases hs h;simp[St.H,Fi.kr,oH];done)
 all_goals
  simp only[runK]at h
  (repeat' split at h)<;>first
   | (cases h;done)
   | (cases hs h;exact Qd2 _)
   | (cases hs h;simp[St.H,St.push];done)
   | (cases hs h;simp[St.H,Fi.kr,oH];done)
theorem runK_pure (hm:k.mem=false)(h:runK E rec q st env k=some (v,st')):st'=st/\∀ st2:St,st2.vars=st.vars->runK E rec q st2 env k=some (v,st2):=by
 have hs:∀ {x y:FV} {a b:St},some (x,a)=some (y,b)->x=y/\a=b:=fun h=>by cases h;exact⟨rfl,rfl⟩
 cases k<;>first
  | (simp[K.mem]at hm;done)
  | skip
 case lit sz agg z nn parts =>
  have hn:nn≠0:=by simpa[K.mem] using hm
  simp only[runK,if_neg hn]at h;refine⟨?_,fun st2 h2 => ?_⟩
  ·(repeat' split at h)<;>first
    | (cases h;done)
    | (exact(hs h).2.symm)
  ·have hl:∀ xs,fF E st2 env xs=fF E st env xs:=wM h2;simp only[runK,hl,if_neg hn]
   (repeat' split at h)<;>first
    | (cases h;done)
    | (cases h;simp_all;done)
 all_goals
  simp only[runK]at h;refine⟨?_,fun st2 h2 => ?_⟩
  ·(repeat' split at h)<;>first
    | (cases h;done)
    | (exact(hs h).2.symm)
  ·have ha:dw E st2 env=dw E st env:=funext (zS h2);have hl:∀ xs,fF E st2 env xs=fF E st env xs:=wM h2;simp only[runK,ha,hl]
   (repeat' split at h)<;>first
    | (cases h;done)
    | (cases h;simp_all;done)
    | (cases h;simp_all;omega)
theorem uT {agg:Bool}{m:Nat}{x:Arg}(h:runK E rec q st env (.load agg m x)=some (v,st')) :
  st'=st/\∀ st2:St,st2.vars=st.vars->(∀ (p:Ref) (y:FV),dw E st env x=some y->((∃ off,y=.r p off)\/∃ av sz i off,y=.e p av sz i off)->st2.heap p=st.heap p)->runK E rec q st2 env (.load agg m x)=some (v,st2):=by
 have hs:∀ {x y:FV} {a b:St},some (x,a)=some (y,b)->x=y/\a=b:=fun h=>by cases h;exact⟨rfl,rfl⟩
 simp only[runK]at h;refine⟨?_,fun st2 h2 hh => ?_⟩
 ·(repeat' split at h)<;>first
   | (cases h;done)
   | (exact(hs h).2.symm)
 ·simp only[runK,zS h2 x];generalize dw E st env x=y at*;cases y with
  | none=>cases h
  | some y =>
   cases y<;>first
    | (cases h;done)
    | skip
   ·rename_i p off;simp only[hh p _ rfl (.inl ⟨_,rfl⟩)]
    (repeat' split at h)<;>first
     | (cases h;done)
     | (cases h;simp_all;done)
   ·rename_i p av sz i off;simp only[hh p _ rfl (.inr ⟨_,_,_,_,rfl⟩)]
    (repeat' split at h)<;>first
     | (cases h;done)
     | (cases h;simp_all;done)
   ·(repeat' split at h)<;>first
     | (cases h;done)
     | (cases h;simp_all;done)
theorem OA {m:Nat}{b:Nat}{x:Arg}{p:Ref}{o0:Nat}(hb:st.vars[b]?=some (.r p o0))(h:runK E rec q st env (.store m (.var b) x)=some (v,st')):∃ o,st'.H=st.H.set (p.abs st.base.length) o:=by
 have hs:∀ {x y:FV} {a b:St},some (x,a)=some (y,b)->x=y/\a=b:=fun h=>by cases h;exact⟨rfl,rfl⟩
 simp only[runK,dw,hb]at h;split at h
 ·rename_i y1 y2 q' off v' e1 e2;cases e1;split at h
  ·split at h
   ·rw[<-(hs h).2];exact⟨_,St.dJ _ _ _⟩
   ·cases h
  ·cases h
 ·rename_i h1 h2;cases h1
 ·cases h
theorem Yw {m:Nat}{p x:Arg}(h:runK E rec q st env (.store m p x)=some (v,st')):∃ y qr o,dw E st env p=some y/\y.target=some qr/\st'.H=st.H.set (qr.abs st.base.length) o:=by
 have hs:∀ {x y:FV} {a b:St},some (x,a)=some (y,b)->x=y/\a=b:=fun h=>by cases h;exact⟨rfl,rfl⟩
 simp only[runK]at h;split at h
 ·rename_i e1 e2;split at h
  ·split at h
   ·rw[<-(hs h).2];exact⟨_,_,_,e1,rfl,St.dJ _ _ _⟩
   ·cases h
  ·cases h
 ·rename_i e1 e2;split at h
  ·split at h
   ·split at h
    ·split at h
     ·rw[<-(hs h).2];exact⟨_,_,_,e1,rfl,St.dJ _ _ _⟩
     ·cases h
    ·split at h
     ·rw[<-(hs h).2];exact⟨_,_,_,e1,rfl,St.dJ _ _ _⟩
     ·cases h
    ·cases h
   ·cases h
  ·cases h
 ·cases h
theorem Ls {p b:Arg}{yy:FV}{pp:Ref}(hb:dw E st env b=some yy)(hy:yy.target=some pp):∀ {ps:List Arg},mi E st env p ps=true->b ∈ ps ->
  ∀ {m:Nat} {x:Arg},runK E rec q st env (.store m p x)=some (v,st')->∃ (qr:Ref) (o:ah),st'.H=st.H.set (qr.abs st.base.length) o/\qr.abs st.base.length≠pp.abs st.base.length
 | [],_,hm,_,_,_=>by cases hm
 | a::r,h,hm,m,x,hk=>by
  simp only[mi,Qd0]at h;rcases Qi1.1 hm with rfl|hm
  ·obtain⟨y,qr,o,h1,h2,h3⟩:=Yw hk;have h4:=h.1;simp only[h1,hb,h2,hy]at h4;exact⟨qr,o,h3,by simpa using h4⟩
  ·exact Ls hb hy h.2 hm hk
theorem Yx {sz bytes:Nat}{s x:Arg}{pp:Ref}{yy:FV}{p:Arg}(hp:dw E st env p=some yy)(hy:yy.target=some pp):∀ {ps:List Arg},mR E st env p ps=true->s ∈ ps->∀ {st1 st2:St} {afC:List FV} {v1:FV},
  dw E st1 afC s=dw E st env s->st1.base.length=st.base.length->runK E rec q st1 afC (.app sz bytes s x)=some (v1,st2) ->
  (∃ new,st2.H=st1.H++new)\/∃ (qr:Ref) (o:ah),st2.H=st1.H.set (qr.abs st.base.length) o/\qr.abs st.base.length≠pp.abs st.base.length
 | [],_,hm,_,_,_,_,_,_,_=>by cases hm
 | b::r,h,hm,st1,st2,afC,v1,he,hb,hk=>by
  simp only[mR,Qd0]at h;rcases Qi1.1 hm with rfl|hm
  ·have hs:∀ {x y:FV} {a b:St},some (x,a)=some (y,b)->a=b:=fun h=>by cases h;rfl
   simp only[runK,he]at hk;have h4:=h.1;rw[hp]at h4;cases hv:dw E st env s with
   | none=>rw[hv]at h4;simp at h4
   | some vs =>
    rw[hv]at h4 hk;cases vs with
    | d y =>
     (repeat' split at hk)<;>first
      | (cases hk;done)
      | (rw[<-hs hk];exact .inl ⟨[],(Q10 _).symm⟩)
      | (rw[<-hs hk];exact .inl ⟨_,by simp only[St.H,St.push,Qm2];rfl⟩)
      | (simp_all;done)
    | ls qr av fE off n =>
     simp only[hy]at h4
     (repeat' split at hk)<;>first
      | (cases hk;done)
      | (rw[<-hs hk];exact .inr ⟨_,_,by rw[<-hb];exact St.dJ _ _ _,by simp_all⟩)
      | (simp_all;done)
    | _=>simp at h4
  ·exact Yx hp hy h.2 hm he hb hk
theorem OB (hm:k.loud q=false)(h:runK E rec q st env k=some (v,st')):st'.base=st.base/\∃ new,st'.loc=st.loc++new:=by
 have hs:∀ {x y:FV} {a b:St},some (x,a)=some (y,b)->a=b:=fun h=>by cases h;rfl
 have hcall:∀ {g:Nat} {xs:List FV},q=true->gz rec q st g xs=some (v,st')->st'.base=st.base/\∃ new,st'.loc=st.loc++new:=by
  intro g xs hq h;subst hq;unfold gz at h;split at h
  ·cases h
  ·split at h
   ·unfold eT at h;split at h
    ·split at h
     ·cases hs h;exact⟨rfl,[],aC⟩
     ·cases h
    ·split at h
     ·cases hs h;exact⟨rfl,_,rfl⟩
     ·simp at h
    ·cases h
   ·unfold dE at h;split at h
    ·split at h
     ·cases hs h;exact⟨rfl,[],aC⟩
     ·cases h
    ·cases h
    ·cases h
 cases k
 case call g args =>
  simp only[runK]at h;split at h
  ·exact hcall (by simpa[K.loud] using hm) h
  ·cases h
 case mE f args =>
  simp only[runK]at h;split at h
  ·exact hcall (by simpa[K.loud] using hm) h
  ·exact hcall (by simpa[K.loud] using hm) h
  ·cases h
 case rJ g args =>
  simp only[runK]at h;split at h
  ·have hq:q=true:=by simpa[K.loud] using hm
   subst hq;unfold dE at h;split at h
   ·split at h
    ·cases hs h;exact⟨rfl,[],aC⟩
    ·cases h
   ·cases h
   ·cases h
  ·cases h
 case store=>simp[K.loud]at hm
 case Oh=>simp[K.loud]at hm
 case mF=>simp[K.loud]at hm
 case jl=>simp[K.loud]at hm
 case clr=>simp[K.loud]at hm
 case nO agg n p ps =>
  replace h:=(kY h).2.1;simp only[runK]at h
  (repeat' split at h)<;>first
   | (cases h;done)
   | (cases hs h;exact⟨rfl,[],(Q10 _).symm⟩)
 case jL agg n p =>
  replace h:=(nR h).1;simp only[runK]at h
  (repeat' split at h)<;>first
   | (cases h;done)
   | (cases hs h;exact⟨rfl,[],(Q10 _).symm⟩)
 case app sz bytes x y =>
  cases x with
  | c d =>
   cases d with
   | n fE =>
    simp only[runK,dw]at h
    (repeat' split at h)<;>first
     | (cases h;done)
     | (cases hs h;exact⟨rfl,_,rfl⟩)
     | (cases hs h;exact⟨rfl,[],(Q10 _).symm⟩)
     | (simp_all;done)
   | _=>simp[K.loud]at hm
  | _=>simp[K.loud]at hm
 all_goals
  simp only[runK]at h
  (repeat' split at h)<;>first
   | (cases h;done)
   | (cases hs h;exact⟨rfl,_,rfl⟩)
   | (cases hs h;exact⟨rfl,[],(Q10 _).symm⟩)
end run
end
section
section trace
variable {E:Env} {rec:Nat->List FV->List ah->bJ}
structure Trace (E:Env)(rec:Nat->List FV->List ah->bJ)(ks:List jE)(env:List FV)(f:Nat->St)(vs:List FV):Prop where
 len:vs.length=ks.length
 step:∀ i o,ks[i]?=some o->∃ v,vs[i]?=some v /\
  ((mh (env++vs.take i) o.guard=some false/\v=.d (.t [])/\f (i+1)=f i) \/
  (mh (env++vs.take i) o.guard=some true/\runK E rec o.q (f i) (env++vs.take i) o.k=some (v,f (i+1))))
theorem yz:∀ (ks:List jE) {st st':St} {env ev:List FV},eu E rec ks st env=some (st',ev)->∃ f vs,ev=env++vs/\f 0=st/\f ks.length=st'/\Trace E rec ks env f vs
 | [],st,st',env,ev,h=>by
  simp only[eu,Qe0,Qm0]at h;exact⟨fun _=>st,[],by simp[h.2],rfl,h.1,⟨rfl,fun i o hi=>by simp at hi⟩⟩
 | o::ks,st,st',env,ev,h=>by
  simp only[eu]at h;have key:∀ (v:FV) (st1:St),eu E rec ks st1 (env++[v])=some (st',ev) ->
    ((mh env o.guard=some false/\v=.d (.t [])/\st1=st)\/(mh env o.guard=some true/\runK E rec o.q st env o.k=some (v,st1))) ->
    ∃ f vs,ev=env++vs/\f 0=st/\f (o::ks).length=st'/\Trace E rec (o::ks) env f vs:=by
   intro v st1 hr h1;obtain⟨f,vs,e1,e2,e3,t⟩:=yz ks hr;refine⟨fun i=>match i with|0=>st|i+1=>f i,v::vs,by simp[e1],rfl,by simpa using e3,⟨by simp[t.len],fun i o' hi => ?_⟩⟩;cases i with
   | zero =>
    simp at hi;subst hi;refine⟨v,rfl,?_⟩;simp only[List.take_zero,Q10,e2];exact h1
   | succ i =>
    obtain⟨v',h2,h3⟩:=t.step i o' (by simpa using hi);refine⟨v',by simpa using h2,?_⟩;simpa using h3
  split at h
  ·cases h
  ·rename_i hg;exact key _ _ h (.inl ⟨hg,rfl,rfl⟩)
  ·rename_i hg;split at h
   ·cases h
   ·rename_i hr;exact key _ _ h (.inr ⟨hg,hr⟩)
end trace
inductive Zc (ops:List Oper):Nat->Nat->Prop
 | edge {i:Nat} {o:Oper} {e:Edge} (hi:ops[i]?=some o) (he:e ∈ o.after) (hb:Region.binds .any e=true):Zc ops i e.on
 | step {i j:Nat} {o:Oper} {e:Edge} (hi:ops[i]?=some o) (he:e ∈ o.after) (hb:Region.binds .any e=true) (h:Zc ops e.on j):Zc ops i j
theorem Lt {ms:List Nat}{o:Oper}{j:Nat}(h:(Oi ms o).testBit j=true):∃ e ∈ o.after,Region.binds .any e=true/\(e.on=j\/(ms.getD e.on 0).testBit j=true):=by
 have key:∀ (l:List Edge) (s:Nat),(l.foldl (fun s e=>if Region.binds .any e then s ||| (2 ^ e.on ||| ms.getD e.on 0) else s) s).testBit j=true ->
   s.testBit j=true\/∃ e ∈ l,Region.binds .any e=true/\(e.on=j\/(ms.getD e.on 0).testBit j=true):=by
  intro l
  induction l with
  | nil=>intro s h;exact .inl h
  | cons e l ih =>
   intro s h;rw[Ql1]at h;rcases ih _ h with h1|⟨e',h1,h2⟩
   ·by_cases hb:Region.binds .any e=true
    ·rw[if_pos hb,Nat.testBit_or,Nat.testBit_or,Xm1,Xm1]at h1;rcases h1 with h1|h1|h1
     ·exact .inl h1
     ·rw[Nat.testBit_two_pow]at h1;exact .inr ⟨e,aC,hb,.inl (by simpa using h1)⟩
     ·exact .inr ⟨e,aC,hb,.inr h1⟩
    ·rw[if_neg hb]at h1;exact .inl h1
   ·exact .inr ⟨e',by simp[h1],h2⟩
 rcases key _ _ h with h|⟨e,h1,h2⟩
 ·simp at h
 ·exact⟨e,by simpa using h1,h2⟩
theorem wN {ops:List Oper}:∀ (l:List Oper) (ms:List Nat),(∀ j,l[j]?=ops[ms.length+j]?)->(∀ i j,(ms.getD i 0).testBit j=true->Zc ops i j)->∀ i j,((masks l ms).getD i 0).testBit j=true->Zc ops i j
 | [],ms,_,h=>h
 | o::l,ms,hat,h=>by
  have h0:ops[ms.length]?=some o:=by simpa using(hat 0).symm
  refine wN l (ms++[Oi ms o]) (fun j => ?_) (fun i j hb => ?_)
  ·have:=hat (j+1);simp only[Qb0,Xi2];rw[show ms.length+1+j=ms.length+(j+1) by omega,<-this];simp
  ·rw[Qj0]at hb;rcases Nat.lt_trichotomy i ms.length with hl|hl|hl
   ·rw[Qa0 hl,<-Qj0]at hb;exact h i j hb
   ·subst hl;rw[Qc0 (Qd2 _)]at hb;simp only[Xi0,Qw1,Q12]at hb;obtain⟨e,he,hbd,h1⟩:=Lt hb;rcases h1 with h1|h1
    ·subst h1;exact .edge h0 he hbd
    ·exact .step h0 he hbd (h _ _ h1)
   ·rw[Qp1 (by simp;omega)]at hb;simp at hb
def TR (ops:List Oper)(i j:Nat):Prop:=(i<j->Zc ops j i)/\(j<i->Zc ops i j)
theorem rR {ops:List Oper}{i j:Nat}(h:comparable (masks ops []) i j=true):TR ops i j:=by
 have hm:=wN (ops:=ops) ops [] aC (fun i j h=>by simp at h);unfold comparable at h;split at h
 ·exact⟨fun _=>hm _ _ h,fun h'=>by omega⟩
 ·exact⟨fun h'=>by omega,fun _=>hm _ _ h⟩
def Pass (x y:jE)(i j:Nat):Prop:=∃ ps g m a,((∃ f as,x.k=.mF f as ps)\/((∃ n p v,x.k=.jl n p v ps)/\j<i))/\y.k=.jL g m a/\∃ b ∈ ps,uR a b=true
def Ahead (x y:jE)(i j:Nat):Prop:=∃ sz bytes s v g m a ps,x.k=.app sz bytes s v/\y.k=.nO g m a ps/\i<j/\s ∈ ps
def anA (x y:jE)(i j:Nat):Prop:=∃ ps n p v g m a qs,x.k=.jl n p v ps/\j<i/\y.k=.nO g m a qs/\∃ b ∈ ps,uR a b=true
structure Ord (ops:List Oper)(ks:List jE)(apart:List (Nat × Nat)):Prop where
 edge:∀ (i:Nat) (o:Oper) e,ops[i]?=some o->e ∈ o.after->Region.binds .any e=true->e.on<i
 dst:∀ (i j:Nat) (o o':Oper) t,ops[i]?=some o->ops[j]?=some o'->i≠j->o.dst=some t->o'.dst≠some t/\(t ∈ tmpsOf o'->TR ops i j)
 grd:∀ (i:Nat) (o:Oper) g b,ops[i]?=some o->o.guard=some (g,b)->Zc ops i g
 mem:∀ (i j:Nat) (x y:jE),ks[i]?=some x->ks[j]?=some y->i≠j->x.k.loud x.q=true->y.k.mem=true->TR ops i j\/(y.q=true/\∃ p,Li x.k y.k=some p/\p ∈ apart)\/Pass x y i j\/Ahead x y i j\/anA x y i j
theorem EH {a b:Arg}(h:uR a b=true):a=b:=by
 unfold uR at h;split at h
 ·rw[beq_iff_eq.1 h]
 ·rw[beq_iff_eq.1 h]
 ·cases h
theorem IX {ops:List Oper}{ks:List jE}{apart:List (Nat × Nat)}(h:IM ops (masks ops []) ks apart=true):Ord ops ks apart:=by
 simp only[IM,Qd0]at h;obtain⟨⟨⟨h1,h2⟩,h3⟩,h4⟩:=h;have mem:∀ {α:Type} (l:List α) (i:Nat) (x:α),l[i]?=some x->(x,i) ∈ l.zipIdx:=fun l i x hx=>by
  rw[Xq2];exact hx
 refine⟨?_,?_,?_,?_⟩
 ·intro i o e hi he hb;have:=Qh2.1 h1 _ (mem _ _ _ hi);have:=Qh2.1 this e (by simpa using he);simpa[hb] using this
 ·intro i j o o' t hi hj hne hd;have:=Qh2.1 h2 _ (mem _ _ _ hi);simp only[hd]at this;have:=Qh2.1 this _ (mem _ _ _ hj);simp only[Xm1,Qd0,beq_iff_eq]at this;rcases this with h|⟨h5,h6⟩
  ·exact absurd h hne
  ·refine⟨by simpa using h5,fun ht => ?_⟩;rcases h6 with h6|h6
   ·simp[ht]at h6
   ·exact rR h6
 ·intro i o g b hi hg;have:=Qh2.1 h3 _ (mem _ _ _ hi);simp only[hg]at this;exact wN (ops:=ops) ops [] aC (fun i j h=>by simp at h) _ _ this
 ·intro i j x y hi hj hne hl hm;have:=Qh2.1 h4 _ (mem _ _ _ hi);simp only[hl,Xg1,Xc1]at this;have:=Qh2.1 this _ (mem _ _ _ hj);simp only[hm,Xg1,Xm1,beq_iff_eq,Qh1,or_false]at this;rcases this with ((h|h)|h)|h
  ·exact absurd h hne
  ·exact .inl (rR h)
  ·right;left
   rw[Qd0]at h;refine⟨h.1,?_⟩;have h:=h.2;split at h
   ·exact⟨_,by assumption,by simpa using h⟩
   ·cases h
  ·right;right
   unfold passes at h;split at h
   ·rename_i f as ps g m a e1 e2;obtain⟨b,hb,hs⟩:=Xe1.1 h;exact .inl ⟨ps,g,m,a,.inl ⟨f,as,e1⟩,e2,b,hb,hs⟩
   ·rename_i n p v ps g m a e1 e2;rw[Qd0]at h;obtain⟨b,hb,hs⟩:=Xe1.1 h.2;exact .inl ⟨ps,g,m,a,.inr ⟨⟨n,p,v,e1⟩,by simpa using h.1⟩,e2,b,hb,hs⟩
   ·rename_i sz bytes s v g m a ps e1 e2;rw[Qd0]at h;obtain⟨b,hb,hs⟩:=Xe1.1 h.2;exact .inr (.inl ⟨sz,bytes,s,v,g,m,a,ps,e1,e2,by simpa using h.1,by rw[EH hs];exact hb⟩)
   ·rename_i n p v ps g m a qs e1 e2;rw[Qd0]at h;obtain⟨b,hb,hs⟩:=Xe1.1 h.2;exact .inr (.inr ⟨ps,n,p,v,g,m,a,qs,e1,by simpa using h.1,e2,b,hb,hs⟩)
   ·cases h
theorem Td {P:Program}{ops:Array Oper}{Q:Exit->Act->World->Prop}(Inv:Array Bool->Act->World->Prop)
  (aiF:∀ (i:Nat) (o:Oper) e,ops[i]?=some o->e ∈ o.after->Region.binds .any e=true->e.on<i)
  (hstep:∀ listed a w i,listed.size=ops.size->(∀ (j:Nat) (o:Oper) e,ops[j]?=some o->listed.getD j false=true->e ∈ o.after->Region.binds .any e=true->listed.getD e.on false=true)->Inv listed a w ->
   i ∈ Region.ready .any ops listed->∀ K:Act->World->Prop,(∀ a' w',Inv (listed.setIfInBounds i true) a' w'->K a' w')->wpOp P ops Q i K a w)
  (hdone:∀ listed a w,Inv listed a w->(∀ i,i<ops.size->listed.getD i false=true)->Q .normal a w) :
  ∀ (fuel:Nat) (listed:Array Bool) (a:Act) (w:World),listed.size=ops.size ->
   (∀ (j:Nat) (o:Oper) e,ops[j]?=some o->listed.getD j false=true->e ∈ o.after->Region.binds .any e=true->listed.getD e.on false=true) ->
   listed.toList.count false<=fuel->Inv listed a w->wpAny P .any ops Q fuel listed a w:=by
 have Yy:∀ listed:Array Bool,listed.size=ops.size->Region.ready .any ops listed=[]->∀ i,i<ops.size->listed.getD i false=true:=by
  intro listed hs hr i
  induction i using Nat.strongRecOn with
  | ind i ih =>
   intro hi;cases hc:listed.getD i false with
   | true=>rfl
   | false =>
    have hm:i ∈ Region.ready .any ops listed:=by
     rw[mem_ready];refine⟨?_,_,Qh0 hi,fun e he hb => ?_⟩
     ·simp only[Qs2]at hc ⊢;rw[Qh0 ae]at hc ⊢;simpa using hc
     ·have:=aiF i _ e (Qh0 hi) he hb;exact ih _ this ae
    rw[hr]at hm;cases hm
 intro fuel
 induction fuel with
 | zero =>
  intro listed a w hs hcl hct hI;have hr:Region.ready .any ops listed=[]:=by
   rw[List.eq_nil_iff_forall_not_mem];intro i hi;have h1:=(mem_ready.1 hi).1;have:false ∈ listed.toList:=by
    rcases Qg0 i listed.size with hl|hl
    ·simp[hl]at h1;have h2:listed.toList[i]?=some false:=by rw[Qt0,Qh0 hl,h1]
     exact Qa2 h2
    ·simp[Xz2 hl]at h1
   have:=List.count_pos_iff.2 this;omega
  exact⟨hr,hdone listed a w hI (Yy listed hs hr)⟩
 | succ fuel ih =>
  intro listed a w hs hcl hct hI;refine⟨fun hr=>hdone listed a w hI (Yy listed hs hr),fun i hi => ?_⟩;refine hstep listed a w i hs hcl hI hi _ (fun a' w' hI'=>ih _ a' w' (by simp[hs]) ?_ ?_ hI')
  ·intro j o e hj hl he hb;obtain⟨_,oi,hoi,hall⟩:=mem_ready.1 hi
   by_cases hij:i=j
   ·subst hij;rw[hoi]at hj;cases hj;exact getD_set_true (hall e he hb)
   ·rw[getD_set_ne _ hij]at hl;exact getD_set_true (hcl j o e hj hl he hb)
  ·have h1:=(mem_ready.1 hi).1;have hil:i<listed.size:=by
    rcases Qg0 i listed.size with hl|hl
    ·exact hl
    ·simp[Xz2 hl]at h1
   have h2:listed[i]=false:=by simpa[hil] using h1
   rw[Array.toList_setIfInBounds,List.count_set (by simpa using hil)];simp only[Array.getElem_toList,h2];have:0<listed.toList.count false:=by
    rw[List.count_pos_iff];have h3:listed.toList[i]?=some false:=by rw[Qt0,Qh0 hil,h2]
    exact Qa2 h3
   have h5:(true==false)=false:=rfl;simp only[beq_self_eq_true,if_true,h5,Qh1,if_false];omega
end
section
section qR
variable {σ:Nat->Option FuncId} {β:Map} {I Wr:Nat->Prop} {wd:Nat->Prop} {w:World} {n:Nat} {H T:List ah}
theorem bP {H T:List ah}{k:Nat}{o:ah}(h:H[k]?=some o):(H++T)[k]?=some o:=by
 rw[Qa0 (aT h)];exact h
theorem zT {β:Map}{k:Nat}{o:ah}{x:Nat × Nat × Nat}(h:o.live β k=some x):∃ v,β k v=some x:=by
 cases o with
 | box cs=>exact⟨0,h⟩
 | row av sz es=>exact⟨av,h⟩
 | h_ av sz es=>cases h
 | map es=>exact⟨0,h⟩
theorem bf.pre (h:bf σ n β I Wr wd (H++T) w)(hn:∀ k v,H.length<=k->β k v=none):bf σ n β I Wr wd H w:=by
 refine⟨h.mf,h.blt,h.kG,fun k v x hx => ?_,fun k av sz es v x h1 h2=>h.mO k av sz es v x (bP h1) h2,fun k o b bo cap h1 h2=>h.wr k o b bo cap (bP h1) h2,
  fun k cs b bo cap h1 h2=>h.box k cs b bo cap (bP h1) h2,fun k av sz es b bo cap h1 h2=>h.row k av sz es b bo cap (bP h1) h2,
  fun k av sz es b bo cap h1 h2=>h.h_ k av sz es b bo cap (bP h1) h2,fun k k' o o' b bo cap wF cap' h1 h2 h3 h4=>h.inj k k' o o' b bo cap wF cap' (bP h1) (bP h2) h3 h4,
  fun k es b bo cap h1 h2=>h.map k es b bo cap (bP h1) h2⟩
 rcases Qg0 k H.length with hl|hl
 ·exact hl
 ·rw[hn k v hl]at hx;cases hx
theorem bf.app (h:bf σ n β I Wr wd H w)(T:List ah):bf σ n β I Wr wd (H++T) w:=by
 have hget:∀ (k:Nat) (o:ah) v x,(H++T)[k]?=some o->β k v=some x->H[k]?=some o:=fun k o v x h1 h2=>by
  rw[Qa0 (h.dom _ _ _ h2)]at h1;exact h1
 refine⟨h.mf,h.blt,h.kG,fun k v x hx=>by rw[Qb0];exact Qk1 (h.dom _ _ _ hx) (Nat.le_add_right _ _),fun k av sz es v x h1 h2=>h.mO k av sz es v x (hget _ _ _ _ h1 h2) h2,
  fun k o b bo cap h1 h2 => ?_,fun k cs b bo cap h1 h2=>h.box k cs b bo cap (hget _ _ _ _ h1 h2) h2,fun k av sz es b bo cap h1 h2=>h.row k av sz es b bo cap (hget _ _ _ _ h1 h2) h2,
  fun k av sz es b bo cap h1 h2=>h.h_ k av sz es b bo cap (hget _ _ _ _ h1 h2) h2,fun k k' o o' b bo cap wF cap' h1 h2 h3 h4 => ?_,fun k es b bo cap h1 h2=>h.map k es b bo cap (hget _ _ _ _ h1 h2) h2⟩
 ·obtain⟨v,hv⟩:=zT h2;exact h.wr k o b bo cap (hget _ _ _ _ h1 hv) h2
 ·obtain⟨v,hv⟩:=zT h3;obtain⟨v',hv'⟩:=zT h4;exact h.inj k k' o o' b bo cap wF cap' (hget _ _ _ _ h1 hv) (hget _ _ _ _ h2 hv') h3 h4
def Map.upto (β:Map)(m:Nat):Map:=fun k v=>if k<m then β k v else none
theorem Map.rC {β:Map}{m k v:Nat}(h:k<m):β.upto m k v=β k v:=by simp[Map.upto,h]
theorem Map.cO {β:Map}{m k v:Nat}{x:Nat × Nat × Nat}(h:β.upto m k v=some x):k<m/\β k v=some x:=by
 unfold Map.upto at h;split at h
 ·exact⟨by assumption,h⟩
 ·cases h
theorem bf.first {A:List ah}(h:bf σ n β I Wr wd (A++T) w)(SS:∀ (k:Nat) cs b bo cap,A[k]?=some (.box cs)->β k 0=some (b,bo,cap)->∀ (j:Nat) (f:FV) (x:Value),cs[j]?=some f->aI σ β I w n f x->aI σ (β.upto A.length) I w n f x) :
  bf σ n (β.upto A.length) I (fun b=>w.heap.size<=b) (fun k=>A.length<=k) A w:=by
 have hget:∀ (k:Nat) (o:ah),A[k]?=some o->(A++T)[k]?=some o/\k<A.length:=fun k o h1=>⟨bP h1,(aT h1)⟩
 have hlive:∀ (k:Nat) (o:ah),k<A.length->o.live (β.upto A.length) k=o.live β k:=fun k o hk=>by cases o<;>simp[ah.live,Map.rC hk]
 refine⟨h.mf,fun k v b bo cap hb=>h.blt _ _ _ _ _ (Map.cO hb).2,fun b hb=>hb,fun k v x hx=>(Map.cO hx).1,fun k av sz es v x h1 h2=>h.mO k av sz es v x (hget _ _ h1).1 (Map.cO h2).2,
  fun k o b bo cap h1 h2 => ?_,fun k cs b bo cap h1 h2 => ?_,fun k av sz es b bo cap h1 h2=>h.row k av sz es b bo cap (hget _ _ h1).1 (Map.cO h2).2,
  fun k av sz es b bo cap h1 h2=>h.h_ k av sz es b bo cap (hget _ _ h1).1 (Map.cO h2).2,fun k k' o o' b bo cap wF cap' h1 h2 h3 h4 => ?_,fun k es b bo cap h1 h2=>h.map k es b bo cap (hget _ _ h1).1 (Map.cO h2).2⟩
 ·obtain⟨g1,g2⟩:=hget _ _ h1;rw[hlive _ _ g2]at h2;exact⟨fun hk=>by omega,(h.wr k o b bo cap g1 h2).2⟩
 ·obtain⟨g1,g2⟩:=hget _ _ h1;obtain⟨a0,c,e,a1,a2,a3⟩:=h.box k cs b bo cap g1 (Map.cO h2).2;exact⟨a0,c,e,a1,a2,fun j f x e1 e2=>SS k cs b bo cap h1 (Map.cO h2).2 j f x e1 (a3 j f x e1 e2)⟩
 ·obtain⟨g1,g2⟩:=hget _ _ h1;obtain⟨g3,g4⟩:=hget _ _ h2;rw[hlive _ _ g2]at h3;rw[hlive _ _ g4]at h4;exact h.inj k k' o o' b bo cap wF cap' g1 g3 h3 h4
end qR
end
section
inductive wO (n m:Nat):FV->Prop
 | u:wO n m .u
 | d (y:D):wO n m (.d y)
 | r {p:Ref} {off:Nat} (h:p.abs n<m):wO n m (.r p off)
 | e {p:Ref} {av sz i off:Nat} (h:p.abs n<m):wO n m (.e p av sz i off)
 | rc (y:D):wO n m (.rc y)
 | ls {p:Ref} {av sz off len:Nat} (h:p.abs n<m):wO n m (.ls p av sz off len)
 | m {p:Ref} (h:p.abs n<m):wO n m (.m p)
 | z (sz:Nat):wO n m (.z sz)
 | f {g:Nat} {first captured:List FV} (h1:∀ c ∈ first,wO n m c) (h2:∀ c ∈ captured,wO n m c):wO n m (.f g first captured)
 | a {cs:List FV} (h:∀ c ∈ cs,wO n m c):wO n m (.a cs)
 | t {cs:List FV} (h:∀ c ∈ cs,wO n m c):wO n m (.t cs)
theorem wO.mono {n m m':Nat}{v:FV}(h:wO n m v)(hm:m<=m'):wO n m' v:=by
 induction h with
 | u=>exact .u
 | d y=>exact .d y
 | r h=>exact .r (Qk1 h hm)
 | e h=>exact .e (Qk1 h hm)
 | rc y=>exact .rc y
 | ls h=>exact .ls (Qk1 h hm)
 | m h=>exact .m (Qk1 h hm)
 | z sz=>exact .z sz
 | f _ _ ih1 ih2=>exact .f ih1 ih2
 | a _ ih=>exact .a ih
 | t _ ih=>exact .t ih
section bnd
variable {σ:Nat->Option FuncId} {β:Map} {I:Nat->Prop} {w:World} {n m:Nat} {v:FV} {x:Value}
theorem wP {α:Type}{cs:List α}{vs:Array Value}(hl:vs.size=cs.length){c:α}(hc:c ∈ cs):∃ (i:Nat) (y:Value),cs[i]?=some c/\vs[i]?=some y:=by
 obtain⟨i,hi,rfl⟩:=Xd0 hc;exact⟨i,vs[i]'(by omega),Qa1 hi,Qh0 ae⟩
theorem aI.bnd (h:aI σ β I w n v x)(hd:∀ k v x,β k v=some x->k<m):wO n m v:=by
 induction h with
 | u x=>exact .u
 | d h=>exact .d _
 | r h=>exact .r (hd _ _ _ h)
 | e h=>exact .e (hd _ _ _ h)
 | rc hb ho h=>exact .rc _
 | ls h hl ho=>exact .ls (hd _ _ _ h)
 | m h=>exact .m (hd _ _ _ h)
 | z=>exact .z _
 | f h h1 h2 _ _ ih1 ih2 =>
  refine .f (fun c hc => ?_) (fun c hc => ?_)
  ·obtain⟨i,y,e1,e2⟩:=wP h1 hc;exact ih1 i c y e1 e2
  ·obtain⟨i,y,e1,e2⟩:=wP h2 hc;exact ih2 i c y e1 e2
 | a hl _ ih=>exact .a (fun c hc=>by obtain⟨i,y,e1,e2⟩:=wP hl hc;exact ih i c y e1 e2)
 | t hl _ ih=>exact .t (fun c hc=>by obtain⟨i,y,e1,e2⟩:=wP hl hc;exact ih i c y e1 e2)
theorem aI.upto (h:aI σ β I w n v x)(hb:wO n m v):aI σ (β.upto m) I w n v x:=by
 induction h with
 | u x=>exact .u x
 | d h=>exact .d h
 | r h=>cases hb with | r hb=>exact .r ((Map.rC hb).trans h)
 | e h=>cases hb with | e hb=>exact .e ((Map.rC hb).trans h)
 | rc h0 ho h=>exact .rc h0 ho h
 | ls h hl ho=>cases hb with | ls hb=>exact .ls ((Map.rC hb).trans h) hl ho
 | m h=>cases hb with | m hb=>exact .m ((Map.rC hb).trans h)
 | z=>exact .z
 | f h h1 h2 _ _ ih1 ih2 =>
  cases hb with
  | f b1 b2=>exact .f h h1 h2 (fun i c x e1 e2=>ih1 i c x e1 e2 (b1 c (Qa2 e1))) (fun i c x e1 e2=>ih2 i c x e1 e2 (b2 c (Qa2 e1)))
 | a hl _ ih=>cases hb with | a b=>exact .a hl (fun i c x e1 e2=>ih i c x e1 e2 (b c (Qa2 e1)))
 | t hl _ ih=>cases hb with | t b=>exact .t hl (fun i c x e1 e2=>ih i c x e1 e2 (b c (Qa2 e1)))
end bnd
def ah.blank:ah->ah
 | .box cs=>.box (cs.map fun _=>.u)
 | o=>o
theorem bf.blank {σ:Nat->Option FuncId}{β:Map}{I Wr:Nat->Prop}{wd:Nat->Prop}{w:World}{n m:Nat}{G:List ah}(h:bf σ n β I Wr wd G w) :
  bf σ n (β.upto m) I (fun b=>w.heap.size<=b) (fun _=>False) ((G.take m).map ah.blank) w:=by
 have hget:∀ (k:Nat) (o:ah),((G.take m).map ah.blank)[k]?=some o->k<m/\∃ o',G[k]?=some o'/\o'.blank=o:=by
  intro k o hk;simp only[Qb1,Qf1,Qp0]at hk;obtain⟨o',h1,h2⟩:=hk;split at h1
  ·exact⟨by assumption,o',h1,h2⟩
  ·cases h1
 have hrow:∀ (o:ah) av sz es,o.blank=.row av sz es->o=.row av sz es:=by intro o;cases o<;>simp[ah.blank]
 have alh:∀ (o:ah) av sz es,o.blank=.h_ av sz es->o=.h_ av sz es:=by intro o;cases o<;>simp[ah.blank]
 have hmap:∀ (o:ah) es,o.blank=.map es->o=.map es:=by intro o;cases o<;>simp[ah.blank]
 have hlive:∀ (o:ah) k x,o.blank.live (β.upto m) k=some x->o.live β k=some x:=by
  intro o k x hx;cases o with
  | box cs=>exact(Map.cO hx).2
  | row av sz es=>exact(Map.cO hx).2
  | h_ av sz es=>cases hx
  | map es=>exact(Map.cO hx).2
 refine⟨h.mf,fun k v b bo cap hb=>h.blt _ _ _ _ _ (Map.cO hb).2,fun b hb=>hb,fun k v x hx => ?_,fun k av sz es v x h1 h2 => ?_,fun k o b bo cap h1 h2=>⟨fun hf=>hf.elim,?_⟩,fun k cs b bo cap h1 h2 => ?_,
  fun k av sz es b bo cap h1 h2 => ?_,fun k av sz es b bo cap h1 h2 => ?_,fun k k' o1 o2 b bo cap wF cap' h1 h2 h3 h4 => ?_,fun k es b bo cap h1 h2 => ?_⟩
 ·obtain⟨h1,h2⟩:=Map.cO hx;have:=h.dom _ _ _ h2;simp;omega
 ·obtain⟨_,o',h3,h4⟩:=hget k _ h1;have:=hrow _ _ _ _ h4;subst this;exact h.mO _ _ _ _ _ _ h3 (Map.cO h2).2
 ·obtain⟨_,o',h3,rfl⟩:=hget k _ h1;exact(h.wr k o' b bo cap h3 (hlive _ _ _ h2)).2
 ·obtain⟨_,o',h3,h4⟩:=hget k _ h1;cases o' with
  | box cs' =>
   simp only[ah.blank,ah.box.injEq]at h4;subst h4;obtain⟨a0,c,e,a1,a2,a3⟩:=h.box k cs' b bo cap h3 (Map.cO h2).2;refine⟨a0,c,e,a1,by simpa using a2,fun j f x e1 e2 => ?_⟩;simp only[Qb1,Qf1]at e1;obtain⟨_,_,rfl⟩:=e1;exact .u x
  | row av sz es=>simp[ah.blank]at h4
  | h_ av sz es=>simp[ah.blank]at h4
  | map es=>simp[ah.blank]at h4
 ·obtain⟨_,o',h3,h4⟩:=hget k _ h1;have:=hrow _ _ _ _ h4;subst this;exact h.row _ _ _ _ _ _ _ h3 (Map.cO h2).2
 ·obtain⟨_,o',h3,h4⟩:=hget k _ h1;have:=alh _ _ _ _ h4;subst this;exact h.h_ _ _ _ _ _ _ _ h3 (Map.cO h2).2
 ·obtain⟨_,o1',h5,rfl⟩:=hget k _ h1;obtain⟨_,o2',h6,rfl⟩:=hget k' _ h2;exact h.inj k k' o1' o2' b bo cap wF cap' h5 h6 (hlive _ _ _ h3) (hlive _ _ _ h4)
 ·obtain⟨_,o',h3,h4⟩:=hget k _ h1;have:=hmap _ _ h4;subst this;exact h.map _ _ _ _ _ h3 (Map.cO h2).2
end
section
variable {mn:Prop}
section merge
variable {σ:Nat->Option FuncId} {β β' β1 β2:Map} {I I' Wr:Nat->Prop} {wd:Nat->Prop} {w w':World} {n:Nat}
def Map.over (β β':Map)(m:Nat):Map:=fun k v=>if k<m then β' k v else β k v
theorem Map.jF {m k v:Nat}(h:k<m):Map.over β β' m k v=β' k v:=by simp[Map.over,h]
theorem Map.mY {m k v:Nat}(h:m<=k):Map.over β β' m k v=β k v:=by simp[Map.over,Nat.not_lt.2 h]
theorem bf.after {G:List ah}(h:bf σ n β I Wr wd G w)(hx:Ext mn β1 β2 I I' (fun b=>w.heap.size<=b) w w')(hi:∀ b,I' b->b<w'.heap.size):bf σ n β I' Wr wd G w' :=
 (h.grow hx.size (fun b hb=>hx.keepW b hb ae)).afA hx.im hi (fun k o b bo cap h1 h2 hb=>(hx.iH b hb).elim (h.wr k o b bo cap h1 h2).2 (fun hsz=>by have:=ky h h2;omega))
theorem Ext.after (hx:Ext mn β1 β2 I I' (fun b=>w.heap.size<=b) w w')(hw:∀ b,w.heap.size<=b->Wr b)(β:Map):Ext mn β β I I' Wr w w' :=
 ⟨fun _ _ _ h=>h,hx.im,fun b hb=>(hx.iH b hb).imp id (hw b),hx.size,hx.fO,fun b hb _=>hx.keepW b hb ae,hx.os,hx.tape,hx.output,hx.drawn⟩
theorem bf.afD {A B C:List ah}(h:bf σ n β I Wr wd (A++B++C) w)(afE:∀ k v,A.length<=k->k<A.length+B.length->β k v=none)
  (hx:Ext mn (β.upto A.length) β' I I' (fun b=>w.heap.size<=b) w w') (hS:bf σ n β' I' (fun b=>w.heap.size<=b) (fun k=>A.length<=k) (A++B) w') (hk:∀ k u,k<A.length->β' k u=β k u) :
  Ext mn β (Map.over β β' (A.length+B.length)) I I' Wr w w'/\bf σ n (Map.over β β' (A.length+B.length)) I' Wr wd (A++B++C) w':=by
 have hlen:(A++B).length=A.length+B.length:=Qb0;have NM:∀ k v x,β k v=some x->Map.over β β' (A.length+B.length) k v=some x:=by
  intro k v x hb;rcases Qg0 k (A.length+B.length) with hl|hl
  ·rw[Map.jF hl];rcases Qg0 k A.length with hl'|hl'
   ·rw[hk k v hl'];exact hb
   ·rw[afE k v hl' hl]at hb;cases hb
  ·rw[Map.mY hl];exact hb
 have ali:∀ k v x,β' k v=some x->Map.over β β' (A.length+B.length) k v=some x:=by
  intro k v x hb;have:=hS.dom k v x hb;rw[hlen]at this;rw[Map.jF this];exact hb
 have hkeep:∀ b,b<w.heap.size->w'.heap[b]?=w.heap[b]?:=fun b hb=>hx.keepW b hb ae
 have Ol:Ext mn β (Map.over β β' (A.length+B.length)) I I' Wr w w' :=
  ⟨NM,hx.im,fun b hb=>(hx.iH b hb).imp id (h.kG b),hx.size,hx.fO,fun b hb _=>hkeep b hb,hx.os,hx.tape,hx.output,hx.drawn⟩
 refine⟨Ol,?_⟩;have hget:∀ (k:Nat) (o:ah),(A++B++C)[k]?=some o->k<A.length+B.length->(A++B)[k]?=some o:=fun k o h1 h2=>by
  rw[Qa0 (by rw[hlen];exact h2)]at h1;exact h1
 have hlive:∀ (k:Nat) (o:ah),k<A.length+B.length->o.live (Map.over β β' (A.length+B.length)) k=o.live β' k:=fun k o hk=>by cases o<;>simp[ah.live,Map.jF hk]
 have nV:∀ (k:Nat) (o:ah),A.length+B.length<=k->o.live (Map.over β β' (A.length+B.length)) k=o.live β k:=fun k o hk=>by cases o<;>simp[ah.live,Map.mY hk]
 have Yz:∀ (k:Nat) (o:ah),k<A.length->o.live β' k=o.live β k:=fun k o hk'=>by cases o<;>simp[ah.live,hk _ _ hk']
 refine⟨hS.mf,?_,fun b hb=>h.kG b (Qc1 hx.size hb),?_,?_,?_,?_,?_,?_,?_,?_⟩
 ·intro k v b bo cap hb;unfold Map.over at hb;split at hb
  ·exact hS.blt _ _ _ _ _ hb
  ·exact Qk1 (h.blt _ _ _ _ _ hb) hx.size
 ·intro k v x hb;unfold Map.over at hb;split at hb
  ·rename_i hl;rw[Qb0,hlen];omega
  ·exact h.dom _ _ _ hb
 ·intro k av sz es v x h1 h2;rcases Qg0 k (A.length+B.length) with hl|hl
  ·rw[Map.jF hl]at h2;exact hS.mO _ _ _ _ _ _ (hget _ _ h1 hl) h2
  ·rw[Map.mY hl]at h2;exact h.mO _ _ _ _ _ _ h1 h2
 ·intro k o b bo cap h1 h2;rcases Qg0 k (A.length+B.length) with hl|hl
  ·rw[hlive _ _ hl]at h2;obtain⟨a1,a2⟩:=hS.wr k o b bo cap (hget _ _ h1 hl) h2;refine⟨fun hw => ?_,a2⟩;rcases Qg0 k A.length with hl'|hl'
   ·rw[Yz _ _ hl']at h2;exact(h.wr k o b bo cap h1 h2).1 hw
   ·exact h.kG b (a1 hl')
  ·rw[nV _ _ hl]at h2;obtain⟨a1,a2⟩:=h.wr k o b bo cap h1 h2;refine⟨a1,fun hb => ?_⟩;rcases hx.iH b hb with hb|hb
   ·exact a2 hb
   ·have:=ky h h2;omega
 ·intro k cs b bo cap h1 h2;rcases Qg0 k (A.length+B.length) with hl|hl
  ·rw[Map.jF hl]at h2;obtain⟨a0,c,e,a1,a2,a3⟩:=hS.box k cs b bo cap (hget _ _ h1 hl) h2;exact⟨a0,c,e,a1,a2,fun j f x e1 e2=>(a3 j f x e1 e2).mono ali (fun _ h=>h) (fun _ _=>rfl)⟩
  ·rw[Map.mY hl]at h2;obtain⟨a0,c,e,a1,a2,a3⟩:=h.box k cs b bo cap h1 h2;exact⟨a0,c,e,by rw[hkeep b (h.blt _ _ _ _ _ h2)];exact a1,a2,fun j f x e1 e2=>Ol.abV (a3 j f x e1 e2)⟩
 ·intro k av sz es b bo cap h1 h2;rcases Qg0 k (A.length+B.length) with hl|hl
  ·rw[Map.jF hl]at h2;exact hS.row _ _ _ _ _ _ _ (hget _ _ h1 hl) h2
  ·rw[Map.mY hl]at h2;obtain⟨a0,c,e,a1,a2⟩:=h.row _ _ _ _ _ _ _ h1 h2;have hb:=hkeep b (h.blt _ _ _ _ _ h2);exact⟨a0.mono hx.im hx.fO hb,c,e,by rw[hb];exact a1,a2⟩
 ·intro k av sz es b bo cap h1 h2;rcases Qg0 k (A.length+B.length) with hl|hl
  ·rw[Map.jF hl]at h2;exact hS.h_ _ _ _ _ _ _ _ (hget _ _ h1 hl) h2
  ·rw[Map.mY hl]at h2;obtain⟨a0,a1⟩:=h.h_ _ _ _ _ _ _ _ h1 h2;exact⟨a0.mono hx.im hx.fO (hx.fO b a1),hx.im b a1⟩
 ·have aiG : ∀ (k k' : Nat) (o o' : ah) b bo cap wF cap', k < A.length + B.length -> A.length + B.length <= k' -> (A ++ B ++ C)[k]? = some o -> (A ++ B ++ C)[k']? = some o' ->
       o.live β' k = some (b, bo, cap) -> o'.live β k' = some (b, wF, cap') -> k = k' := by
   intro k k' o o' b bo cap wF cap' hl hl' h1 h2 h3 h4;rcases Qg0 k A.length with hl2|hl2
   ·rw[Yz _ _ hl2]at h3;exact h.inj k k' o o' b bo cap wF cap' h1 h2 h3 h4
   ·have h5:w.heap.size<=b:=(hS.wr k o b bo cap (hget _ _ h1 hl) h3).1 hl2;have:=ky h h4;omega
  intro k k' o o' b bo cap wF cap' h1 h2 h3 h4;rcases Qg0 k (A.length+B.length) with hl|hl<;>rcases Qg0 k' (A.length+B.length) with hl'|hl'
  ·rw[hlive _ _ hl]at h3;rw[hlive _ _ hl']at h4;exact hS.inj k k' o o' b bo cap wF cap' (hget _ _ h1 hl) (hget _ _ h2 hl') h3 h4
  ·rw[hlive _ _ hl]at h3;rw[nV _ _ hl']at h4;exact aiG k k' o o' b bo cap wF cap' hl hl' h1 h2 h3 h4
  ·rw[nV _ _ hl]at h3;rw[hlive _ _ hl']at h4;exact(aiG k' k o' o b wF cap' bo cap hl' hl h2 h1 h4 h3).symm
  ·rw[nV _ _ hl]at h3;rw[nV _ _ hl']at h4;exact h.inj k k' o o' b bo cap wF cap' h1 h2 h3 h4
 ·intro k es b bo cap h1 h2;rcases Qg0 k (A.length+B.length) with hl|hl
  ·rw[Map.jF hl]at h2;exact hS.map _ _ _ _ _ (hget _ _ h1 hl) h2
  ·rw[Map.mY hl]at h2;obtain⟨ms,clock,a1,a2⟩:=h.map _ _ _ _ _ h1 h2;exact⟨ms,clock,by rw[hkeep b (h.blt _ _ _ _ _ h2)];exact a1,a2.mono hx.im hx.fO⟩
end merge
def tails (H:Nat->List ah):Nat->Nat->List ah
 | 0,_=>[]
 | d+1,i=>(H (i+1)).drop (H i).length++tails H d (i+1)
def full (H:Nat->List ah)(m i:Nat):List ah:=H i++tails H (m-i) i
section full
variable {H:Nat->List ah} {m:Nat}
theorem Lu:full H m m=H m:=by simp[full,tails]
theorem yA {i:Nat}(hi:i<m):full H m i=H i++(H (i+1)).drop (H i).length++tails H (m-(i+1)) (i+1):=by
 unfold full;rw[show m-i=(m-(i+1))+1 by omega,tails,Qm2]
theorem gZ {i:Nat}(hi:i<m){new:List ah}(h:H (i+1)=H i++new):full H m (i+1)=full H m i:=by
 rw[yA hi,h,List.drop_append_of_le_length (Qd2 _),Qv1,Qv2,full,h]
theorem EI {i p q:Nat}(hi:i<m){o:ah}(h:H (i+1)=(H i).set q o)(hp:p≠q):(full H m (i+1))[p]?=(full H m i)[p]?:=by
 rw[yA hi,h,full,h];have:((H i).set q o).drop (H i).length=[]:=Xn2 aC;rw[this,Q10];rcases Qg0 p (H i).length with hl|hl
 ·rw[Qa0 (by simpa using hl),Qa0 hl,Qb2 (Ne.symm hp)]
 ·rw[Qc0 (by simpa using hl),Qc0 hl];simp
theorem Te {i k:Nat}(hi:i<m)(hl:(H i).length<=(H (i+1)).length)(h:k<(H i).length->(H (i+1))[k]?=(H i)[k]?):(full H m (i+1))[k]?=(full H m i)[k]?:=by
 rw[yA hi];unfold full;rcases Qg0 k (H (i+1)).length with h1|h1
 ·rw[Qa0 h1,Qa0 (by rw[Qb0,Xb1];omega)];rcases Qg0 k (H i).length with h2|h2
  ·rw[h h2,Qa0 h2]
  ·rw[Qc0 h2,Qx2]
   congr 1
   omega
 ·rw[Qc0 h1,Qc0 (by rw[Qb0,Xb1];omega)]
  congr 1
  rw[Qb0,Xb1];omega
theorem Lv {i k:Nat}(hk:k<(H i).length):(full H m i)[k]?=(H i)[k]?:=by
 unfold full;rw[Qa0 hk]
theorem ui (hm:∀ i,i<m->(H i).length<=(H (i+1)).length):∀ (d i:Nat),i+d=m->(full H m i).length=(H m).length
 | 0,i,h=>by
  have:i=m:=ae;subst this;rw[Lu]
 | d+1,i,h=>by
  have h1:=ui hm d (i+1) ae;have h2:=hm i ae;rw[yA ae];rw[full]at h1;simp only[Qb0,Xb1]at h1 ⊢;omega
theorem YA (hm:∀ i,i<m->(H i).length<=(H (i+1)).length){i j:Nat}(hij:i<=j)(hj:j<=m):(H i).length<=(H j).length:=by
 induction j with
 | zero => have : i = 0 :=ae
           subst this;exact Qd2 _
 | succ j ih =>
  rcases Q71 hij with he|hl
  ·subst he;exact Qd2 _
  ·exact Qc1 (ih ae ae) (hm j ae)
theorem GM {r i:Nat}(Ha:r<=i)(hq:∀ j,r<=j->j<i->full H m (j+1)=full H m j):full H m i=full H m r:=by
 induction i with
 | zero => have : r = 0 :=ae
           subst this;rfl
 | succ i ih =>
  rcases Q71 Ha with he|hl
  ·subst he;rfl
  ·rw[hq i ae ae];exact ih ae (fun j h1 h2=>hq j h1 ae)
theorem EJ {r i p:Nat}(Ha:r<=i)(hq:∀ j,r<=j->j<i->(full H m (j+1))[p]?=(full H m j)[p]?):(full H m i)[p]?=(full H m r)[p]?:=by
 induction i with
 | zero => have : r = 0 :=ae
           subst this;rfl
 | succ i ih =>
  rcases Q71 Ha with he|hl
  ·subst he;rfl
  ·rw[hq i ae ae];exact ih ae (fun j h1 h2=>hq j h1 ae)
theorem acd {k i:Nat}(h1:(H i).length<=k)(d:Nat)(hd:i+d=m)(h2:k<(H m).length):∃ j,i<=j/\j<m/\(H j).length<=k/\k<(H (j+1)).length:=by
 induction d generalizing i with
 | zero => have : i = m :=ae
           subst this;omega
 | succ d ih =>
  rcases Qg0 k (H (i+1)).length with hl|hl
  ·exact⟨i,Qd2 _,ae,h1,hl⟩
  ·obtain⟨j,a1,a2,a3,a4⟩:=ih hl ae;exact⟨j,ae,a2,a3,a4⟩
end full
end
section
variable {mn:Prop}
structure Tf (P:Program)(E:Env)(cx:Cx)(σ:Nat->Option FuncId)(rec:Nat->List FV->List ah->bJ)(l:List Oper)(ks:List jE)(ap:List (Nat × Nat))(f:Nat->St)(ev:List FV)(n:Nat)(vars:List FV)(wd:Nat->Prop):Prop where
 gid:∀ f g,cx.gid f=some g->σ g=some f
 bod:Bodies P E σ
 rl:fC rec
 rc:kC P E σ rec
 comp:∀ (i:Nat) (o:Oper),l[i]?=some o->∃ x,ks[i]?=some x/\aY P cx ((l.take i).map (·.dst)) o=some x.k.IL/\x.guard=o.guard/\qX ((l.take i).map (·.dst)) o.guard=true/\xR cx o.dst=true
 Tg:ks.length=l.length
 tr:Trace E rec ks [] f ev
 base:∀ i,i<=l.length->(f i).base.length=n
 Zd:∀ i,i<=l.length->(f i).vars=vars
 ord:Ord l ks ap
 apart:lD (f 0) ap=true
 mw:∀ i,i<=l.length->jm n (f i) wd
 aiI:∀ (j:Nat) (t:Tmp) (y:FV),cx.vars[j]?=some t->vars[j]?=some y->wO n (f 0).H.length y
def Gr (l:List Oper)(f:Nat->St)(r:Nat):List ah:=full (fun i=>(f i).H) l.length r
structure Inv (mn:Prop)(cx:Cx)(σ:Nat->Option FuncId)(l:List Oper)(ks:List jE)(f:Nat->St)(ev:List FV)(n:Nat)(vars:List FV)(Wr wd:Nat->Prop)(β0:Map)(I0:Nat->Prop)(w0:World)(ds:List Deferred)
  (r:Nat) (β:Map) (I:Nat->Prop) (listed:Array Bool) (a:Act) (w:World):Prop where
 rle:r<=l.length
 rl:r=0\/∃ x,ks[r-1]?=some x/\x.k.loud x.q=true
 wrote:∀ (j:Nat) (x:jE),ks[j]?=some x->x.k.loud x.q=true->(listed.getD j false=true↔j<r)
 qR:bf σ n β I Wr wd (Gr l f r) w
 ext:Ext mn β0 β I0 I Wr w0 w
 gap:∀ j,j<l.length->listed.getD j false=false->∀ k v,(f j).H.length<=k->k<(f (j+1)).H.length->β k v=none
 cb:∀ i,r<=i->i<=l.length->∀ (k:Nat) (cs:List FV) (x:Nat × Nat × Nat),k<(f i).H.length->(Gr l f r)[k]?=some (.box cs)->β k 0=some x->∀ c ∈ cs,wO n (f i).H.length c
 vb:∀ (j:Nat) (y:FV),listed.getD j false=true->ev[j]?=some y->wO n (f (j+1)).H.length y
 size:a.tmps.size=cx.ntmps
 loc:∀ (j:Nat) (o:Oper) (t:Tmp) (y:FV),l[j]?=some o->o.dst=some t->listed.getD j false=true->ev[j]?=some y->aI σ β I w n y (a.eval (.tmp t))
 var:∀ (j:Nat) (t:Tmp) (y:FV),cx.vars[j]?=some t->(∀ (i:Nat) (o:Oper),l[i]?=some o->o.dst=some t->listed.getD i false=false)->vars[j]?=some y->aI σ β I w n y (a.eval (.tmp t))
 dfr:a.defers=ds
section next
variable {P:Program} {E:Env} {cx:Cx} {σ:Nat->Option FuncId} {rec:Nat->List FV->List ah->bJ} {l:List Oper} {ks:List jE} {ap:List (Nat × Nat)} {f:Nat->St} {ev:List FV} {n:Nat} {vars:List FV} {Wr wd:Nat->Prop}
variable {β0 β β':Map} {I0 I I':Nat->Prop} {w0 w w':World} {ds:List Deferred} {r r':Nat} {listed:Array Bool} {a:Act} {i:Nat} {o:Oper} {v:FV} {x:Value}
theorem set_self {m:Nat}(hs:listed.size=m)(hi:i<m):(listed.setIfInBounds i true).getD i false=true:=by
 simp[Qs2,hs,hi]
theorem Inv.next (h:Inv mn cx σ l ks f ev n vars Wr wd β0 I0 w0 ds r β I listed a w)(hO:Ord l ks ap)(ho:l[i]?=some o)(hs:listed.size=l.length)(hd:xR cx o.dst=true)(hv:ev[i]?=some v)
  (hr:r'<=l.length) (hrl:r'=0\/∃ x,ks[r'-1]?=some x/\x.k.loud x.q=true)
  (hwr:∀ (j:Nat) (x:jE),ks[j]?=some x->x.k.loud x.q=true->((listed.setIfInBounds i true).getD j false=true↔j<r')) (hx:Ext mn β β' I I' Wr w w') (hS:bf σ n β' I' Wr wd (Gr l f r') w')
  (afE:∀ j,j<l.length->j≠i->listed.getD j false=false->∀ k v,(f j).H.length<=k->k<(f (j+1)).H.length->β' k v=none)
  (hcb:∀ i,r'<=i->i<=l.length->∀ (k:Nat) (cs:List FV) (x:Nat × Nat × Nat),k<(f i).H.length->(Gr l f r')[k]?=some (.box cs)->β' k 0=some x->∀ c ∈ cs,wO n (f i).H.length c)
  (hb:wO n (f (i+1)).H.length v) (hR:aI σ β' I' w' n v x) :
  Inv mn cx σ l ks f ev n vars Wr wd β0 I0 w0 ds r' β' I' (listed.setIfInBounds i true) (a.put o.dst x) w':=by
 have hil:i<l.length:=(aT ho)
 have hself:=set_self (listed:=listed) (i:=i) hs hil;have hne:∀ j,j≠i->(listed.setIfInBounds i true).getD j false=listed.getD j false:=fun j hj=>getD_set_ne false (Ne.symm hj)
 have hdp:∀ u,o.dst=some u->u<a.tmps.size:=by
  intro u hu;rw[h.size];rw[hu]at hd;simpa[xR] using hd
 refine⟨hr,hrl,hwr,hS,h.ext.trans hx,?_,hcb,?_,by rw[Ea];exact h.size,?_,?_,by rw[put_defers];exact h.dfr⟩
 ·intro j hj hun
  by_cases hji:j=i
  ·subst hji;rw[hself]at hun;cases hun
  ·rw[hne j hji]at hun;exact afE j hj hji hun
 ·intro j y hl hy
  by_cases hji:j=i
  ·subst hji;rw[hv]at hy;cases hy;exact hb
  ·rw[hne j hji]at hl;exact h.vb j y hl hy
 ·intro j o' t y ho' ht hl hy;rw[eval_put _ _ _ _ hdp]
  by_cases hji:j=i
  ·subst hji;rw[ho]at ho';cases ho';rw[if_pos ht];rw[hv]at hy;cases hy;exact hR
  ·have:o.dst≠some t:=fun e=>(hO.dst i j o o' t ho ho' (Ne.symm hji) e).1 ht
   rw[if_neg this];rw[hne j hji]at hl;exact hx.abV (h.loc j o' t y ho' ht hl hy)
 ·intro j t y hj hno hy;have h1:o.dst≠some t:=fun e=>by
   have:=hno i o ho e;rw[hself]at this;cases this
  rw[eval_put _ _ _ _ hdp,if_neg h1];refine hx.abV (h.var j t y hj (fun i' o' ho' ht => ?_) hy);have:=hno i' o' ho' ht
  by_cases hji:i'=i
  ·subst hji;rw[hself]at this;cases this
  ·rw[hne i' hji]at this;exact this
theorem Inv.same (h:Inv mn cx σ l ks f ev n vars Wr wd β0 I0 w0 ds r β I listed a w)(hO:Ord l ks ap)(ho:l[i]?=some o)(hs:listed.size=l.length)(hd:xR cx o.dst=true)(hv:ev[i]?=some v)
  (hq:∀ x,ks[i]?=some x->x.k.loud x.q=false) {β1 β2:Map} (hx:Ext mn β1 β2 I I' (fun b=>w.heap.size<=b) w w') (hi:∀ b,I' b->b<w'.heap.size)
  (hb:wO n (f (i+1)).H.length v) (hR:aI σ β I' w' n v x) :
  Inv mn cx σ l ks f ev n vars Wr wd β0 I0 w0 ds r β I' (listed.setIfInBounds i true) (a.put o.dst x) w':=by
 refine h.next hO ho hs hd hv h.rle h.rl (fun j y hj hl => ?_) (hx.after h.qR.kG β) (h.qR.after hx hi) (fun j hj _ hun=>h.gap j hj hun) h.cb hb hR
 have:j≠i:=fun e=>by subst e;rw[hq y hj]at hl;cases hl
 rw[getD_set_ne false (Ne.symm this)];exact h.wrote j y hj hl
end next
section reg
variable {P:Program} {E:Env} {cx:Cx} {σ:Nat->Option FuncId} {rec:Nat->List FV->List ah->bJ} {l:List Oper} {ks:List jE} {ap:List (Nat × Nat)} {f:Nat->St} {ev:List FV} {n:Nat} {vars:List FV} {wd:Nat->Prop}
theorem YB {q:Bool}{k:K}(h:k.loud q=true):k.mem=true:=by cases k<;>simp_all[K.loud,K.mem]
theorem qj {k k':K}{p:Nat × Nat}(h:Li k k'=some p):∃ m b x g m' a,k=.store m (.var b) x/\k'=.load g m' (.var a)/\p=(a,b):=by
 unfold Li at h;split at h
 ·cases h;exact⟨_,_,_,_,_,_,rfl,rfl,rfl⟩
 ·cases h
theorem TR.symm {i j:Nat}(h:TR l i j):TR l j i:=⟨h.2,h.1⟩
variable (R:Tf P E cx σ rec l ks ap f ev n vars wd)
include R
theorem Tf.mono (i:Nat)(hi:i<l.length):(f i).H.length<=(f (i+1)).H.length:=by
 have hk:i<ks.length:=by rw[R.Tg];exact hi
 obtain⟨v,_,h⟩:=R.tr.step i _ (Qa1 hk);rcases h with ⟨_,_,h⟩|⟨_,h⟩
 ·rw[h];exact Qd2 _
 ·exact Yv R.rl h
theorem Tf.le {i j:Nat}(hij:i<=j)(hj:j<=l.length):(f i).H.length<=(f j).H.length:=YA (H:=fun i=>(f i).H) R.mono hij hj
theorem Tf.makes {j:Nat}{y:jE}(hy:ks[j]?=some y)(h:(f j).H.length<(f (j+1)).H.length):y.k.mem=true/\(∀ g m x,y.k≠.load g m x/\y.k≠.jL g m x)/\∀ g m x ps,y.k≠.nO g m x ps:=by
 obtain⟨v,_,h1⟩:=R.tr.step j y hy;rcases h1 with ⟨_,_,h1⟩|⟨_,h1⟩
 ·rw[h1]at h;omega
 ·constructor
  ·cases hm:y.k.mem with
   | true=>rfl
   | false=>rw[(runK_pure hm h1).1]at h;omega
  ·refine⟨fun g m x => ?_,fun g m x ps e=>by rw[e]at h1;rw[(uT (kY h1).2.1).1]at h;omega⟩;constructor
   ·intro e;rw[e]at h1;rw[(uT h1).1]at h;omega
   ·intro e;rw[e]at h1;rw[(uT (nR h1).1).1]at h;omega
theorem Tf.quiet {j:Nat}{y:jE}(hy:ks[j]?=some y)(hq:y.k.loud y.q=false):∃ new,(f (j+1)).H=(f j).H++new:=by
 obtain⟨v,_,h1⟩:=R.tr.step j y hy;rcases h1 with ⟨_,_,h1⟩|⟨_,h1⟩
 ·exact⟨[],by rw[h1];simp⟩
 ·obtain⟨h2,new,h3⟩:=OB hq h1;exact⟨new,by simp[St.H,h2,h3]⟩
theorem Tf.ui {r:Nat}(hr:r<=l.length):(Gr l f r).length=(f l.length).H.length :=
 Fi.ui (H:=fun i=>(f i).H) R.mono (l.length-r) r ae
theorem Tf.aiJ {i:Nat}(hi:i<=l.length):n<=(f i).H.length:=by
 have:=R.base i hi;simp only[St.H,Qb0];omega
theorem Tf.own {Wr:Nat->Prop}{β0 β:Map}{I0 I:Nat->Prop}{w0 w:World}{ds:List Deferred}{r:Nat}{listed:Array Bool}{a:Act}{i:Nat}(hi:i<l.length)(h:Inv mn cx σ l ks f ev n vars Wr wd β0 I0 w0 ds r β I listed a w)(hun:listed.getD i false=false)
  (hset:∀ (j:Nat) (y:jE),ks[j]?=some y->y.k.loud y.q=true->j≠i->(j<i->listed.getD j false=true)/\(i<j->listed.getD j false=false)):r<=i/\Gr l f i=Gr l f r:=by
 have Ha:r<=i:=by
  rcases h.rl with h0|⟨x,h1,h2⟩
  ·omega
  ·rcases Qg0 i r with hlt|hge
   ·have hl:=(h.wrote _ x h1 h2).2 ae
    by_cases he:r-1=i
    ·rw[he,hun]at hl;cases hl
    ·rw[(hset _ x h1 h2 he).2 ae]at hl;cases hl
   ·exact hge
 refine⟨Ha,GM (H:=fun i=>(f i).H) Ha (fun j h1 h2 => ?_)⟩;have hk:j<ks.length:=by rw[R.Tg];omega
 cases hq:ks[j].k.loud ks[j].q with
 | false =>
  obtain⟨new,hn⟩:=R.quiet (Qa1 hk) hq;exact gZ (H:=fun i=>(f i).H) ae hn
 | true =>
  have hl:=(hset j _ (Qa1 hk) hq ae).1 h2;have:=(h.wrote j _ (Qa1 hk) hq).1 hl;omega
end reg
end
section
theorem yB {aL:List (Option Tmp)}{t:Tmp}(h:gu aL t=none):some t ∉ aL:=by
 unfold gu at h;split at h
 ·cases h
 ·rename_i hi;rw[List.idxOf?,Xj1]at hi;intro hm;have:=hi (some t) (by simpa using hm);simp at this
theorem IY {σ:Nat->Option FuncId}{β:Map}{I:Nat->Prop}{w:World}{n:Nat}{env:List FV}{aL:List (Option Tmp)}{a:Act}{ops:Array Oper}{o:Oper}
  (hloc:∀ g b t y,o.guard=some (g,b)->aL[g]?=some (some t)->env[g]?=some y->aI σ β I w n y (a.eval (.tmp t)))
  (hpre:∀ (j:Nat) (d:Option Tmp),aL[j]?=some d->(ops[j]?).bind (·.dst)=d) (hg:qX aL o.guard=true) {b:Bool} (hb:mh env o.guard=some b) :
  Region.wanted o (yielded ops a.tmps)=b:=by
 unfold Region.wanted;unfold mh at hb;cases hgd:o.guard with
 | none=>rw[hgd]at hb;simpa using hb
 | some p =>
  obtain⟨j,want⟩:=p;rw[hgd]at hb hg;simp only[qX]at hg;split at hg
  ·rename_i t ht;have hd:=hpre j _ ht;simp only at hb ⊢;have hy:yielded ops a.tmps j=match a.tmps[t]? with|some (.bool b)=>some b|_=>none:=by
    unfold yielded;rw[hd];rfl
   rw[hy];cases hev:env[j]? with
   | none=>rw[hev]at hb;cases hb
   | some y =>
    have hr:=hloc j want t y hgd ht hev;rw[hev]at hb;split at hb
    ·rename_i c he;cases he;cases hb;cases hr with
     | d hr =>
      generalize hz:a.eval (.tmp t)=z at hr;cases hr;have:a.tmps[t]?=some (.bool c):=by
       simp only[Act.eval,Qs2]at hz;cases hq:a.tmps[t]? with
       | none=>rw[hq]at hz;simp[undef]at hz
       | some q=>rw[hq]at hz;simp at hz;rw[hz]
      rw[this];cases c<;>cases want<;>rfl
    ·rename_i he;cases he;cases hb;cases hr with
     | d hr =>
      generalize hz:a.eval (.tmp t)=z at hr;cases hr with
      | @t _ vs hl' h2 =>
       have hvs:vs=#[]:=by simpa using hl'
       subst hvs;simp only[Act.eval,Qs2]at hz;cases hq:a.tmps[t]? with
       | none=>simp
       | some q=>rw[hq]at hz;simp at hz;rw[hz];simp
    ·cases hb
  ·cases hg
theorem apart_spec {st:St}:∀ {ap:List (Nat × Nat)},lD st ap=true->∀ {i j:Nat},(i,j) ∈ ap->∃ p o p' o',st.vars[i]?=some (.r p o)/\st.vars[j]?=some (.r p' o')/\p.abs st.base.length≠p'.abs st.base.length
 | [],_,i,j,h=>by simp at h
 | (i',j')::ap,h,i,j,hm=>by
  simp only[lD,Qd0]at h;rcases Qi1.1 hm with he|hm
  ·cases he;have h1:=h.1;split at h1
   ·rename_i p o p' o' e1 e2;exact⟨p,o,p',o',e1,e2,by simpa using h1⟩
   ·cases h1
  ·exact apart_spec h.2 hm
theorem Ti {E:Env}{rec:Nat->List FV->List ah->bJ}{st st':St}{env:List FV}{agg:Bool}{m:Nat}{x:Arg}{v:FV}{p:Ref}{off:Nat}(hx:dw E st env x=some (.r p off))(h:runK E rec true st env (.load agg m x)=some (v,st')) :
  ∃ y,v=.d y:=by
 simp only[runK,hx]at h;split at h
 ·split at h
  ·split at h
   ·cases h
   ·rename_i v' hv hp;cases h;cases v<;>simp[kJ]at hp;exact⟨_,rfl⟩
  ·cases h
 ·cases h
theorem YC {n:Nat}{st:St}{v:FV}(hn:st.base.length=n)(h:Dt st v=true):wO n st.H.length v:=by
 unfold Dt at h;split at h
 ·exact .d _
 ·exact .r (by rw[<-hn,St.H,Qb0];simpa using h)
 ·exact .ls (by rw[<-hn,St.H,Qb0];simpa using h)
 ·exact .m (by rw[<-hn,St.H,Qb0];simpa using h)
 ·cases h
theorem AV {E:Env}{st:St}{env:List FV}{b:Arg}:∀ {ps:List Arg},ic E st env ps=true->b ∈ ps->∃ pl po,dw E st env b=some (.r (.loc pl) po)
 | [],_,hb=>by cases hb
 | a::r,h,hb=>by
  simp only[ic,Qd0]at h;rcases Qi1.1 hb with rfl|hb
  ·have h1:=h.1;split at h1
   ·exact⟨_,_,by assumption⟩
   ·cases h1
  ·exact AV h.2 hb
theorem rD {E:Env}{st st':St}{ev:List FV}{i j:Nat}{a:Arg}{y:FV}{vars:List FV}(h1:st'.vars=vars)(h2:st.vars=vars)(hij:i<=j)(h:dw E st (ev.take i) a=some y):dw E st' (ev.take j) a=some y:=by
 cases a with
 | var k=>simp only[dw,h1,h2]at h ⊢;exact h
 | loc k =>
  simp only[dw,Qp0]at h ⊢;split at h
  ·rw[if_pos ae];exact h
  ·cases h
 | c x=>exact h
 | g k=>exact h
theorem OC {E:Env}{rec:Nat->List FV->List ah->bJ}{q:Bool}{st st':St}{env:List FV}{agg:Bool}{m:Nat}{x:Arg}{v yy:FV}{p:Ref}(h:runK E rec q st env (.load agg m x)=some (v,st'))(hy:dw E st env x=some yy)
  (hor:(∃ off,yy=.r p off)\/∃ av sz i off,yy=.e p av sz i off):∃ o,st.heap p=some o:=by
 simp only[runK,hy]at h;rcases hor with ⟨_,rfl⟩|⟨_,_,_,_,rfl⟩
 ·simp only at h;cases hh:st.heap p with
  | none=>rw[hh]at h;cases h
  | some o=>exact⟨o,rfl⟩
 ·simp only at h;cases hh:st.heap p with
  | none=>rw[hh]at h;cases h
  | some o=>exact⟨o,rfl⟩
section step
variable {P:Program} {E:Env} {cx:Cx} {σ:Nat->Option FuncId} {rec:Nat->List FV->List ah->bJ} {l:List Oper} {ks:List jE} {ap:List (Nat × Nat)} {f:Nat->St} {ev:List FV} {n:Nat} {vars:List FV} {Wr wd:Nat->Prop}
variable {β0 β:Map} {I0 I:Nat->Prop} {w0 w:World} {ds:List Deferred} {r:Nat} {listed:Array Bool} {a:Act} {i:Nat} {o:Oper} {ops:Array Oper} {Q:Exit->Act->World->Prop}
theorem Tf.operand (R:Tf P E cx σ rec l ks ap f ev n vars wd)(h:Inv E.mn cx σ l ks f ev n vars Wr wd β0 I0 w0 ds r β I listed a w)(hG:dX E σ I w)(ho:l[i]?=some o)(hun:listed.getD i false=false)
  (hset:∀ j,TR l i j->(j<i->listed.getD j false=true)/\(i<j->listed.getD j false=false)) {ty:TypeId} {x:Operand} {y:Arg} {v:FV} (hx:x ∈ o.op.operands.toList)
  (hc:jb P cx ((l.take i).map (·.dst)) ty x=some y) (hv:dw E (f i) (ev.take i) y=some v):aI σ β I w n v (a.eval x)/\wO n (f i).H.length v:=by
 have hil:i<l.length:=(aT ho)
 unfold jb at hc;cases x with
 | tmp t =>
  have htm:t ∈ tmpsOf o:=by
   unfold tmpsOf;rw[List.mem_filterMap];exact⟨.tmp t,hx,rfl⟩
  simp only at hc;split at hc
  ·rename_i j hj;cases hc;have h1:=rA hj;simp only[Qb1,Qf1,Qp0]at h1;obtain⟨oj,h2,h3⟩:=h1;split at h2
   ·rename_i hji;have hne:j≠i:=ae;have hcm:=((R.ord.dst j i oj o t h2 ho hne h3).2 htm).symm;have hlj:=(hset j hcm).1 hji;simp only[dw,Qp0,if_pos hji]at hv;exact⟨h.loc j oj t v h2 h3 hlj hv,(h.vb j v hlj hv).mono (R.le ae ae)⟩
   ·cases h2
  ·rename_i hno;split at hc<;>simp at hc;subst hc;rename_i j hj;have hjt:=oK hj;simp only[dw,R.Zd i ae]at hv;refine⟨h.var j t v hjt (fun i' o' ho' ht => ?_) hv,(R.aiI j t v hjt hv).mono (R.le (Qr1 _) ae)⟩;rcases Nat.lt_trichotomy i' i with hl|hl|hl
   ·refine absurd ?_ (yB hno);rw[Qg1];refine⟨o',?_,ht⟩;rw[List.mem_take_iff_getElem];have hi':=Qy1.1 ho';exact⟨i',ae,hi'.2⟩
   ·subst hl;exact hun
   ·have hcm:=((R.ord.dst i' i o' o t ho' ho ae ht).2 htm).symm;exact(hset i' hcm).2 hl
 | const z =>
  simp only at hc;split at hc<;>simp at hc;subst hc;rename_i hz;simp only[dw,Qe0]at hv;subst hv;exact⟨.d (ug R.gid hz),.d _⟩
 | func g =>
  simp only at hc;split at hc<;>simp at hc;subst hc;rename_i hz;simp only[dw,Qe0]at hv;subst hv;exact⟨.d (.fn (R.gid _ _ hz)),.d _⟩
 | global k =>
  simp only at hc;cases hc;simp only[dw]at hv;split at hv<;>simp at hv;subst hv;rename_i z hz;obtain⟨h1,h2,h3,_⟩:=hG _ _ hz;exact⟨.rc h1 h2 h3,.rc _⟩
theorem kD (hi:ops[i]?=some o)(hw:Region.wanted o (yielded ops a.tmps)=true){Φ:Value->World->Prop}(hy:Yields P o a.eval w Φ){K:Act->World->Prop}(hK:∀ x w',Φ x w'->K (a.put o.dst x) w'):wpOp P ops Q i K a w:=by
 unfold wpOp;simp only[hi,hw,if_true];exact .inl (hy.wp hK)
theorem yC (hi:ops[i]?=some o)(hw:Region.wanted o (yielded ops a.tmps)=false){K:Act->World->Prop}(hK:K (a.put o.dst undef) w):wpOp P ops Q i K a w:=by
 unfold wpOp;simp only[hi,hw];exact hK
theorem Tf.step (R:Tf P E cx σ rec l ks ap f ev n vars wd)(hl:ops.toList=l)(hG0:dX E σ I0 w0)(hs:listed.size=ops.size)
  (hcl:∀ (j:Nat) (o:Oper) e,ops[j]?=some o->listed.getD j false=true->e ∈ o.after->Region.binds .any e=true->listed.getD e.on false=true)
  (h:Inv E.mn cx σ l ks f ev n vars Wr wd β0 I0 w0 ds r β I listed a w) (hi:i ∈ Region.ready .any ops listed) (Kn:Act->World->Prop)
  (hK:∀ a' w',(∃ r' β' I',Inv E.mn cx σ l ks f ev n vars Wr wd β0 I0 w0 ds r' β' I' (listed.setIfInBounds i true) a' w')->Kn a' w'):wpOp P ops Q i Kn a w:=by
 obtain⟨afF,o,hoi,hall⟩:=mem_ready.1 hi;have hat:∀ j,l[j]?=ops[j]?:=fun j=>by rw[<-hl,Qt0]
 have hsl:listed.size=l.length:=by rw[hs,<-hl,Xd1]
 have ho:l[i]?=some o:=by rw[hat];exact hoi
 have hil:i<l.length:=(aT ho)
 have hun:listed.getD i false=false:=by
  simp only[Qs2]at afF ⊢;rw[Qh0 ae]at afF ⊢;simpa using afF
 have hclosed:∀ p j,Zc l p j->listed.getD p false=true->listed.getD j false=true:=by
  intro p j hb
  induction hb with
  | edge h1 h2 h3=>intro hp;exact hcl _ _ _ (by rw[<-hat];exact h1) hp h2 h3
  | step h1 h2 h3 _ ih=>intro hp;exact ih (hcl _ _ _ (by rw[<-hat];exact h1) hp h2 h3)
 have hbef:∀ j,Zc l i j->listed.getD j false=true:=by
  intro j hb;cases hb with
  | edge h1 h2 h3=>rw[ho]at h1;cases h1;exact hall _ h2 h3
  | step h1 h2 h3 h4=>rw[ho]at h1;cases h1;exact hclosed _ _ h4 (hall _ h2 h3)
 have hset:∀ j,TR l i j->(j<i->listed.getD j false=true)/\(i<j->listed.getD j false=false):=by
  intro j hc;refine⟨fun hj=>hbef j (hc.2 hj),fun hj => ?_⟩;cases hq:listed.getD j false with
  | false=>rfl
  | true=>rw[hclosed j i (hc.1 hj) hq]at hun;cases hun
 obtain⟨x,hx,hcomp,hgd,alj,Tj⟩:=R.comp i o ho;obtain⟨v,hv,htr⟩:=R.tr.step i x hx;have hG:dX E σ I w:=hG0.mono h.ext.im h.ext.fO;have hop:∀ {ty:TypeId} {z:Operand} {y:Arg} {v:FV},z ∈ o.op.operands.toList->jb P cx ((l.take i).map (·.dst)) ty z=some y->dw E (f i) (ev.take i) y=some v->aI σ β I w n v (a.eval z)/\wO n (f i).H.length v :=
  fun hz hc hv=>R.operand h hG ho hun hset hz hc hv
 have hbase:=R.base i ae;have hvars:=R.Zd i ae
 -- the guard
 have hguard:∀ b,mh (ev.take i) x.guard=some b->Region.wanted o (yielded ops a.tmps)=b:=by
  intro b hb;rw[hgd]at hb;refine IY (σ:=σ) (β:=β) (I:=I) (w:=w) (n:=n) (env:=ev.take i) (aL:=(l.take i).map (·.dst)) (fun g b t y h1 h2 h3 => ?_) (fun j d hj => ?_) alj hb
  ·simp only[Qb1,Qf1,Qp0]at h2;obtain⟨og,h4,h5⟩:=h2;split at h4
   ·rename_i hgi;simp only[Qp0,if_pos hgi]at h3;exact h.loc g og t y h4 h5 (hbef g (R.ord.grd i o g b ho h1)) h3
   ·cases h4
  ·simp only[Qb1,Qf1,Qp0]at hj;obtain⟨oj,h4,h5⟩:=hj;split at h4
   ·rw[<-hat,h4];exact h5
   ·cases h4
 simp only[Qv2]at htr;cases hlo:x.k.loud x.q with
 | true =>
  have hcmp:∀ (j:Nat) (y:jE),ks[j]?=some y->y.k.mem=true->j≠i->TR l i j\/∃ g m z,y.k=.load g m z\/y.k=.jL g m z\/∃ ps,y.k=.nO g m z ps:=by
   intro j y hy hm hne;rcases R.ord.mem i j x y hx hy (Ne.symm hne) hlo hm with h1|⟨_,p,h2,_⟩|⟨_,g,m',a',_,e2,_,_⟩|⟨_,_,_,_,g,m',a',ps',_,e2,_,_⟩|⟨_,_,_,_,g,m',a',ps',_,_,e2,_⟩
   ·exact .inl h1
   ·obtain⟨_,_,_,g,m',a',_,e2,_⟩:=qj h2;exact .inr ⟨_,_,_,.inl e2⟩
   ·exact .inr ⟨_,_,_,.inr (.inl e2)⟩
   ·exact .inr ⟨_,_,_,.inr (.inr ⟨_,e2⟩)⟩
   ·exact .inr ⟨_,_,_,.inr (.inr ⟨_,e2⟩)⟩
  have ac3:∀ (j:Nat) (y:jE),ks[j]?=some y->y.k.loud y.q=true->j≠i->(j<i->listed.getD j false=true)/\(i<j->listed.getD j false=false):=by
   intro j y hy hl hne;rcases hcmp j y hy (YB hl) hne with h1|⟨g,m,z,e|e|⟨_,e⟩⟩
   ·exact hset j h1
   ·rw[e]at hl;simp[Fi.K.loud]at hl
   ·rw[e]at hl;simp[Fi.K.loud]at hl
   ·rw[e]at hl;simp[Fi.K.loud]at hl
  obtain⟨Ha,hGi⟩:=R.own hil h hun ac3;have hmk:∀ j,j<l.length->j≠i->(f j).H.length<(f (j+1)).H.length->(j<i->listed.getD j false=true)/\(i<j->listed.getD j false=false):=by
   intro j hj hne hlt;have hk:j<ks.length:=by rw[R.Tg];exact hj
   obtain⟨hm,hno⟩:=R.makes (Qa1 hk) hlt;rcases hcmp j _ (Qa1 hk) hm hne with h1|⟨g,m,z,e|e|⟨_,e⟩⟩
   ·exact hset j h1
   ·exact absurd e (hno.1 g m z).1
   ·exact absurd e (hno.1 g m z).2
   ·exact absurd e (hno.2 g m z _)
  have hwr:∀ (j:Nat) (y:jE),ks[j]?=some y->y.k.loud y.q=true->((listed.setIfInBounds i true).getD j false=true↔j<i+1):=by
   intro j y hy hl
   by_cases hji:j=i
   ·subst hji;simp[set_self (listed:=listed) hsl hil]
   ·rw[getD_set_ne false (Ne.symm hji)];have:=ac3 j y hy hl hji;constructor
    ·intro ht;rcases Qg0 i j with hlt|hge
     ·rw[this.2 hlt]at ht;cases ht
     ·omega
    ·intro hlt;exact this.1 ae
  have hrl:i+1=0\/∃ x,ks[i+1-1]?=some x/\x.k.loud x.q=true:=.inr ⟨x,by simpa using hx,hlo⟩;rcases htr with ⟨hg,hv0,hf⟩|⟨hg,hrun⟩
  ·-- not carried out
   refine yC hoi (hguard _ hg) (hK _ w ⟨i+1,β,I,?_⟩);subst hv0;have hGs:Gr l f (i+1)=Gr l f r:=by
    rw[<-hGi];exact gZ (H:=fun i=>(f i).H) hil (new:=[]) (by simp[hf])
   refine h.next R.ord ho hsl Tj hv ae hrl hwr (Ext.refl _ _ _ _) (by rw[hGs];exact h.qR) (fun j hj _ hun=>h.gap j hj hun) (fun i' h1 h2 k cs z h3 h4 h5 => ?_) (.d _) l5
   rw[hGs]at h4;exact h.cb i' ae h2 k cs z h3 h4 h5
  ·-- it writes
   have YD:∀ k u,(f i).H.length<=k->β k u=none:=by
    intro k u hk;cases hβ:β k u with
    | none=>rfl
    | some z =>
     have hd:=h.qR.dom k u z hβ;rw[R.ui h.rle]at hd;obtain⟨j,h1,h2,h3,h4⟩:=acd (H:=fun i=>(f i).H) hk (l.length-i) ae hd;cases hlj:listed.getD j false with
     | false=>rw[h.gap j h2 hlj k u h3 h4]at hβ;cases hβ
     | true =>
      have hne:j≠i:=fun e=>by subst e;rw[hun]at hlj;cases hlj
      rw[(hmk j h2 hne ae).2 ae]at hlj;cases hlj
   have Lx:bf σ (f i).base.length β I Wr wd ((f i).base++(f i).loc) w:=by
    rw[hbase];have:=h.qR;rw[<-hGi]at this;exact bf.pre (H:=(f i).H) this YD
   have hA:bX P E cx σ β I w (f i) (ev.take i) ((l.take i).map (·.dst)) a.eval o.op.operands.toList:=by
    intro ty z y v' hz hc hv';rw[hbase];exact(hop hz hc hv').1
   have alk:jm (f i).base.length (f (i+1)) wd:=by rw[hbase];exact R.mw (i+1) ae
   refine kD hoi (hguard _ hg) (zR R.gid R.bod R.rl R.rc hG hA hcomp hrun (fun _=>alk) Lx) (fun z w' hp=>hK _ w' ⟨i+1,?_⟩);obtain⟨β',I',hxt,hS',hR',_⟩:=hp;rw[hbase]at hS' hR';have hdom:∀ k u z,β' k u=some z->k<(f (i+1)).H.length:=hS'.dom;refine⟨β',I',h.next R.ord ho hsl Tj hv ae hrl hwr hxt (bf.app (H:=(f (i+1)).H) hS' _) (fun j hj hne YE k u h1 h2 => ?_) (fun i' h1 h2 k cs y h3 h4 h5 => ?_) (hR'.bnd hdom) hR'⟩
   ·rcases Qg0 j i with hlt|hge
    ·rw[(hmk j hj hne ae).1 hlt]at YE;cases YE
    ·have:(f (i+1)).H.length<=(f j).H.length:=R.le ae ae;cases hβ:β' k u with
     | none=>rfl
     | some y=>have:=hdom k u y hβ;omega
   ·have hk:=hdom k 0 y h5;have h6:(f (i+1)).H[k]?=some (.box cs):=by
     rw[<-h4];exact(Lv (H:=fun i=>(f i).H) hk).symm
    obtain⟨b,bo,cap⟩:=y;obtain⟨_,c,e,_,g2,g3⟩:=hS'.box k cs b bo cap h6 h5;intro cc hcc;obtain⟨j,z',e1,e2⟩:=wP g2 hcc;exact((g3 j cc z' e1 e2).bnd hdom).mono (R.le ae h2)
 | false =>
  have hqq:∀ y,ks[i]?=some y->y.k.loud y.q=false:=fun y hy=>by rw[hx]at hy;cases hy;exact hlo
  rcases htr with ⟨hg,hv0,hf⟩|⟨hg,hrun⟩
  ·subst hv0;exact yC hoi (hguard _ hg) (hK _ w ⟨r,β,I,h.same R.ord ho hsl Tj hv hqq (Ext.refl β I _ w) h.qR.mf (.d _) l5⟩)
  ·have ac4:(Gr l f r).length=(f l.length).H.length:=R.ui h.rle;cases hm:x.k.mem with
   | false =>
    obtain⟨hf,hany⟩:=runK_pure hm hrun;have YF:=h.qR.blank (m:=(f i).H.length);have hlen:(((Gr l f r).take (f i).H.length).map ah.blank).length=(f i).H.length:=by
     rw[Qj1,Qq0,ac4];have:=R.le (i:=i) (j:=l.length) ae (Qd2 _);omega
    generalize hA':((Gr l f r).take (f i).H.length).map ah.blank=A' at YF hlen
    let st2:St:={vars:=(f i).vars,base:=A'.take n,loc:=A'.drop n,aX:=false}
    have hb2:st2.base.length=n:=by
     have:=R.aiJ (i:=i) ae;simp only[st2,Qq0];omega
    have hH2:st2.base++st2.loc=A':=Xe2 n A';have hS2:bf σ st2.base.length (β.upto (f i).H.length) I (fun b=>w.heap.size<=b) (fun _=>False) (st2.base++st2.loc) w:=by rw[hb2,hH2];exact YF
    have hA2:bX P E cx σ (β.upto (f i).H.length) I w st2 (ev.take i) ((l.take i).map (·.dst)) a.eval o.op.operands.toList:=by
     intro ty z y v' hz hc hv';rw[hb2];obtain⟨g1,g2⟩:=hop hz hc hv';exact g1.upto g2
    refine kD hoi (hguard _ hg) (zR R.gid R.bod R.rl R.rc hG hA2 hcomp (hany st2 rfl) (fun hl=>by rw[hlo]at hl;cases hl) hS2) (fun z w' hp=>hK _ w' ⟨r,β,?_⟩);obtain⟨β',I',hxt,hS',hR',hk'⟩:=hp;rw[hH2,hlen]at hk';rw[hb2,hH2]at hS';rw[hb2]at hR';have hdom:∀ k u z,β' k u=some z->k<(f i).H.length:=fun k u z hz=>by have:=hS'.dom k u z hz;rw[hlen]at this;exact this
    refine⟨I',h.same R.ord ho hsl Tj hv hqq hxt hS'.mf ((hR'.bnd hdom).mono (R.mono i hil)) (hR'.mono (fun k u z hz => ?_) (fun _ h=>h) (fun _ _=>rfl))⟩;have h1:=hdom k u z hz;rw[hk' k u h1 (fun h=>h),Map.rC h1]at hz;exact hz
   | true =>
    by_cases hcmp:∀ (j:Nat) (y:jE),ks[j]?=some y->y.k.loud y.q=true->j≠i->TR l i j
    ·-- it has been compared with all that is loud
     obtain⟨Ha,hGi⟩:=R.own hil h hun (fun j y hy hl hne=>hset j (hcmp j y hy hl hne));obtain⟨new,hnew⟩:=R.quiet hx hlo;have hfl:Gr l f r=(f i).H++new++tails (fun i=>(f i).H) (l.length-(i+1)) (i+1):=by
      rw[<-hGi];have:=yA (H:=fun i=>(f i).H) hil;simp only[hnew,List.drop_append_of_le_length (Qd2 _),Qv1,Qv2]at this;exact this
     have hlen1:(f (i+1)).H.length=(f i).H.length+new.length:=by rw[hnew,Qb0]
     have Lx:=h.qR;rw[hfl]at Lx;have hS0:bf σ (f i).base.length (β.upto (f i).H.length) I (fun b=>w.heap.size<=b) (fun k=>(f i).H.length<=k) ((f i).base++(f i).loc) w:=by
      rw[hbase];refine bf.first (A:=(f i).H) (T:=new++tails (fun i=>(f i).H) (l.length-(i+1)) (i+1)) (by rw[<-Qm2];exact Lx) (fun k cs b bo cap h1 h2 j c y h3 h4=>h4.upto ?_)
      have hk:=(aT h1)
      refine h.cb i Ha ae k cs _ hk ?_ h2 c (Qa2 h3);rw[hfl,Qm2];exact bP h1
     have hA:bX P E cx σ (β.upto (f i).H.length) I w (f i) (ev.take i) ((l.take i).map (·.dst)) a.eval o.op.operands.toList:=by
      intro ty z y v' hz hc hv';rw[hbase];obtain⟨g1,g2⟩:=hop hz hc hv';exact g1.upto g2
     refine kD hoi (hguard _ hg) (zR R.gid R.bod R.rl R.rc hG hA hcomp hrun (fun hl=>by rw[hlo]at hl;cases hl) hS0) (fun z w' hp => ?_);obtain⟨β',I',hxt,hS',hR',hk'⟩:=hp;rw[hbase]at hS' hR';have hdom:∀ k u z,β' k u=some z->k<(f (i+1)).H.length:=hS'.dom;have hkb:∀ k u,k<(f i).H.length->β' k u=β k u:=fun k u hk=>by
      rw[hk' k u hk (by simp only[St.H]at hk ⊢;omega),Map.rC hk]
     have hS1:bf σ n β' I' (fun b=>w.heap.size<=b) (fun k=>(f i).H.length<=k) ((f i).H++new) w':=by rw[<-hnew];exact hS'
     obtain⟨hx2,hS2⟩:=bf.afD Lx (fun k u h1 h2=>h.gap i hil hun k u h1 ae) hxt hS1 hkb;rw[<-hlen1]at hx2 hS2;refine hK _ w' ⟨r,_,I',h.next R.ord ho hsl Tj hv h.rle h.rl (fun j y hy hl => ?_) hx2 (by rw[hfl];exact hS2) (fun j hj hne YE k u h1 h2 => ?_) (fun i' h1 h2 k cs y h3 h4 h5 => ?_) (hR'.bnd hdom) (hR'.mono (fun k u z hz => ?_) (fun _ h=>h) (fun _ _=>rfl))⟩
     ·have:j≠i:=fun e=>by subst e;rw[hqq y hy]at hl;cases hl
      rw[getD_set_ne false (Ne.symm this)];exact h.wrote j y hy hl
     ·rcases Qg0 j i with hlt|hge
      ·have h3:(f (j+1)).H.length<=(f i).H.length:=R.le ae ae;rw[Map.jF ae,hkb k u ae];exact h.gap j hj YE k u h1 h2
      ·have h3:(f (i+1)).H.length<=(f j).H.length:=R.le ae ae;rw[Map.mY ae];exact h.gap j hj YE k u h1 h2
     ·rcases Qg0 k (f i).H.length with hk1|hk1
      ·rw[Map.jF ae,hkb k 0 hk1]at h5;exact h.cb i' h1 h2 k cs y h3 h4 h5
      ·rcases Qg0 k (f (i+1)).H.length with hk2|hk2
       ·rw[Map.jF hk2]at h5;have hii:i+1<=i':=by
         rcases Qg0 i i' with hlt|hge
         ·exact hlt
         ·have:=R.le hge ae;omega
        have h6:((f i).H++new)[k]?=some (.box cs):=by
         rw[hfl,Qa0 (by rw[Qb0];omega)]at h4;exact h4
        obtain⟨b,bo,cap⟩:=y;obtain⟨_,c,e,_,g2,g3⟩:=hS1.box k cs b bo cap h6 h5;intro cc hcc;obtain⟨j,z',e1,e2⟩:=wP g2 hcc;exact((g3 j cc z' e1 e2).bnd hdom).mono (R.le hii h2)
       ·rw[Map.mY hk2]at h5;exact h.cb i' h1 h2 k cs y h3 h4 h5
     ·rw[Map.jF (hdom k u z hz)];exact hz
    ·-- a load that may come before or behind a store,or a call
     have hex:∃ (j:Nat) (y:jE),ks[j]?=some y/\y.k.loud y.q=true/\j≠i/\¬ TR l i j:=by
      refine Classical.byContradiction fun hno=>hcmp fun j y hy hl hne=>Classical.byContradiction fun hc=>hno ⟨j,y,hy,hl,hne,hc⟩
     obtain⟨j0,y0,hy0,hl0,hne0,alm⟩:=hex;have aln:∃ g0 m0 ax,x.k.IL=.load g0 m0 ax/\runK E rec x.q (f i) (ev.take i) (.load g0 m0 ax)=some (v,f (i+1))/\wO n (f i).H.length v /\
       ∀ (p:Ref) (yy:FV),dw E (f i) (ev.take i) ax=some yy->((∃ off,yy=.r p off)\/∃ av sz i off,yy=.e p av sz i off) ->
        ∀ (j:Nat) (y:jE),ks[j]?=some y->y.k.loud y.q=true->j≠i->j<l.length->¬ TR l i j->(Gr l f (j+1))[p.abs n]?=(Gr l f j)[p.abs n]?:=by
      rcases((R.ord.mem j0 i y0 x hy0 hx hne0 hl0 hm).resolve_left (fun hc=>alm hc.symm)).imp id (Or.imp id fun h=>(h.elim (fun⟨_,_,_,_,g,m,a,ps,_,h,_,_⟩=>⟨g,m,a,ps,h⟩) (fun⟨_,_,_,_,g,m,a,ps,_,_,h,_⟩=>⟨g,m,a,ps,h⟩):∃ g m a ps,x.k=.nO g m a ps)) with ⟨hxq,p0,hp0,alo⟩|⟨psj,g0,m0,ax,d1,d2,d3⟩|⟨g0,m0,ax,ps0,d2⟩
      ·obtain⟨m0,b0,x0,g0,m0',a0,e1,e2,e3⟩:=qj hp0;subst e3;obtain⟨p,po,p',po',hva,hvb,hpp⟩:=apart_spec R.apart alo;rw[R.Zd 0 ae]at hva;have aiK:dw E (f i) (ev.take i) (.var a0)=some (.r p po):=by simp only[dw,hvars];exact hva
       have hrun':=hrun;rw[e2,hxq]at hrun';obtain⟨y,hvy⟩:=Ti aiK hrun';refine⟨g0,m0',.var a0,by rw[e2];rfl,by rw[<-e2];exact hrun,by rw[hvy];exact .d _,fun pp yy YG hor j y hy hl hne hjl hnc => ?_⟩;rw[aiK]at YG;cases YG;obtain rfl:pp=p:=by
        rcases hor with ⟨_,e⟩|⟨_,_,_,_,e⟩
        ·cases e;rfl
        ·cases e
       rcases(R.ord.mem j i y x hy hx hne hl hm).resolve_left (fun hc=>hnc hc.symm) with ⟨_,pj,hpj,alp⟩|⟨_,_,_,_,_,q2,_⟩|⟨_,_,_,_,_,_,_,_,_,q2,_,_⟩|⟨_,_,_,_,_,_,_,_,_,_,q2,_⟩
       ·obtain⟨mj,bj,xj,gj,mj',aj,d1,d2,d3⟩:=qj hpj;subst d3;rw[e2]at d2;cases d2;obtain⟨pq,pqo,pq',alq,hqa,hqb,SV⟩:=apart_spec R.apart alp;rw[R.Zd 0 ae]at hqa hqb;rw[hva]at hqa;cases hqa;rw[R.base 0 ae]at SV;obtain⟨vj,_,hj⟩:=R.tr.step j y hy;rcases hj with ⟨_,_,hj⟩|⟨_,hj⟩
        ·exact congrArg (fun L:List ah=>L[pp.abs n]?) (gZ (H:=fun i=>(f i).H) hjl (new:=[]) (by simp[hj]))
        ·rw[d1]at hj;obtain⟨oo,Jg⟩:=OA (b:=bj) (p:=pq') (o0:=alq) (by rw[R.Zd j ae];exact hqb) hj;rw[R.base j ae]at Jg;exact EI (H:=fun i=>(f i).H) hjl Jg SV
       ·rw[e2]at q2;cases q2
       ·rw[e2]at q2;cases q2
       ·rw[e2]at q2;cases q2
      ·have hrun':=hrun;rw[d2]at hrun';obtain⟨hr1,hb1⟩:=nR hrun';refine⟨g0,m0,ax,by rw[d2];rfl,hr1,YC hbase hb1,fun pp yy YG hor j y hy hl hne hjl hnc => ?_⟩;rcases(R.ord.mem j i y x hy hx hne hl hm).resolve_left (fun hc=>hnc hc.symm) with ⟨_,pj,hpj,_⟩|⟨anQ,g',m',ax',q1,q2,b,hb,hsb⟩|⟨_,_,_,_,_,_,_,_,_,q2,_,_⟩|⟨_,_,_,_,_,_,_,_,_,_,q2,_⟩
       ·obtain⟨_,_,_,_,_,_,_,q2,_⟩:=qj hpj;rw[d2]at q2;cases q2
       ·rw[d2]at q2;cases q2;obtain⟨vj,_,hj⟩:=R.tr.step j y hy;simp only[Qv2]at hj;rcases hj with ⟨_,_,hj⟩|⟨_,hj⟩
        ·exact congrArg (fun L:List ah=>L[pp.abs n]?) (gZ (H:=fun i=>(f i).H) hjl (new:=[]) (by simp[hj]))
        ·rcases q1 with ⟨fj',anR,q1⟩|⟨⟨nj,pj,vj',q1⟩,q3⟩
         rotate_left
         ·rw[q1]at hj;obtain⟨YD,hj1⟩:=oI hj;have hax:dw E (f j) (ev.take j) ax=some yy:=rD (R.Zd j ae) hvars ae YG;obtain⟨q,oo,hqo,SV⟩:=Ls (by rw[<-EH hsb];exact hax) (show yy.target=some pp by rcases hor with ⟨_,rfl⟩|⟨_,_,_,_,rfl⟩<;>rfl) YD hb hj1;rw[R.base j ae]at hqo SV;exact EI (H:=fun i=>(f i).H) hjl hqo (Ne.symm SV)
         rw[q1]at hj;obtain⟨hloc,st1,hj1,hj2⟩:=Gx hj;obtain⟨pl,po,hab⟩:=AV hloc hb;rw[<-EH hsb]at hab;have hax:yy=.r (.loc pl) po:=by
          rcases Nat.le_total i j with hij|hij
          ·have h7:=rD (R.Zd j ae) hvars hij YG;rw[hab]at h7;exact(Qy0 h7).symm
          ·have h7:=rD hvars (R.Zd j ae) hij hab;rw[YG]at h7;exact Qy0 h7
         subst hax;obtain rfl:pp=.loc pl:=by
          rcases hor with ⟨_,e⟩|⟨_,_,_,_,e⟩
          ·cases e;rfl
          ·cases e
         rcases hj2 with ⟨_,h5,new,h6⟩|⟨h5,h6⟩
         ·exact congrArg (fun L:List ah=>L[(Ref.loc pl).abs n]?) (gZ (H:=fun i=>(f i).H) hjl (new:=new) (by simp only[St.H,h5,h6,Qm2]))
         ·refine Te (H:=fun i=>(f i).H) hjl (R.mono j hjl) (fun hk => ?_);have hb1:=(qf R.rl hj1).base;have hbj:=R.base j ae;rw[h6];simp only[St.H,Ref.abs]at hk ⊢;rw[Qb0]at hk;have hpl:pl<(f j).loc.length:=ae;have i1:n+pl-st1.base.length=pl:=ae;have i2:n+pl-(f j).base.length=pl:=ae;rw[Qc0 (show st1.base.length<=n+pl by omega),Qc0 (show(f j).base.length<=n+pl by omega),i1,i2];exact Qa0 hpl
       ·rw[d2]at q2;cases q2
       ·rw[d2]at q2;cases q2
      ·have hrun':=hrun;rw[d2]at hrun';obtain⟨YD,hr1,hb1⟩:=kY hrun';refine⟨g0,m0,ax,by rw[d2];rfl,hr1,YC hbase hb1,fun pp yy YG hor j y hy hl hne hjl hnc => ?_⟩;rcases(R.ord.mem j i y x hy hx hne hl hm).resolve_left (fun hc=>hnc hc.symm) with ⟨_,pj,hpj,_⟩|⟨_,_,_,_,_,q2,_⟩|⟨fE,by',s',v',g',m',a',ps',q1,q2,q3,q4⟩|⟨ps',n',p',v',g',m',a',qs',q1,q3,q2,b,hb,hsb⟩
       ·obtain⟨_,_,_,_,_,_,_,q2,_⟩:=qj hpj;rw[d2]at q2;cases q2
       ·rw[d2]at q2;cases q2
       ·rw[d2]at q2;cases q2;obtain⟨vj,_,hj⟩:=R.tr.step j y hy;simp only[Qv2]at hj;rcases hj with ⟨_,_,hj⟩|⟨_,hj⟩
        ·exact congrArg (fun L:List ah=>L[pp.abs n]?) (gZ (H:=fun i=>(f i).H) hjl (new:=[]) (by simp[hj]))
        ·rw[q1]at hj;cases hsv:dw E (f j) (ev.take j) s' with
         | none=>simp[runK,hsv]at hj
         | some sv =>
          have hsi:dw E (f i) (ev.take i) s'=some sv:=rD hvars (R.Zd j ae) ae hsv;rcases Yx YG (show yy.target=some pp by rcases hor with ⟨_,rfl⟩|⟨_,_,_,_,rfl⟩<;>rfl) YD q4 (hsv.trans hsi.symm) (by rw[R.base j ae,hbase]) hj with ⟨new,hn⟩|⟨q,oo,hqo,SV⟩
          ·exact congrArg (fun L:List ah=>L[pp.abs n]?) (gZ (H:=fun i=>(f i).H) hjl hn)
          ·rw[hbase]at hqo SV;exact EI (H:=fun i=>(f i).H) hjl hqo (Ne.symm SV)
       ·rw[d2]at q2;cases q2;obtain⟨vj,_,hj⟩:=R.tr.step j y hy;simp only[Qv2]at hj;rcases hj with ⟨_,_,hj⟩|⟨_,hj⟩
        ·exact congrArg (fun L:List ah=>L[pp.abs n]?) (gZ (H:=fun i=>(f i).H) hjl (new:=[]) (by simp[hj]))
        ·rw[q1]at hj;obtain⟨anE,hj1⟩:=oI hj;have hax:dw E (f j) (ev.take j) ax=some yy:=rD (R.Zd j ae) hvars ae YG;obtain⟨q,oo,hqo,SV⟩:=Ls (by rw[<-EH hsb];exact hax) (show yy.target=some pp by rcases hor with ⟨_,rfl⟩|⟨_,_,_,_,rfl⟩<;>rfl) anE hb hj1;rw[R.base j ae]at hqo SV;exact EI (H:=fun i=>(f i).H) hjl hqo (Ne.symm SV)
     obtain⟨g0,m0,ax,aiM,hrun,aiN,ac5⟩:=aln;have Qj:∀ (p:Ref) (j:Nat) (y:jE),ks[j]?=some y->y.k.loud y.q=false->j<l.length->(Gr l f (j+1))[p.abs n]?=(Gr l f j)[p.abs n]?:=by
      intro p j y hy hl hjl;obtain⟨new,hn⟩:=R.quiet hy hl;exact congrArg (fun L:List ah=>L[p.abs n]?) (gZ (H:=fun i=>(f i).H) hjl hn)
     have afG:∀ (p:Ref) (yy:FV),dw E (f i) (ev.take i) ax=some yy->((∃ off,yy=.r p off)\/∃ av sz i off,yy=.e p av sz i off)->(Gr l f r)[p.abs n]?=(Gr l f i)[p.abs n]?:=by
      intro p yy YG hor;rcases Nat.le_total r i with Ha|Ha
      ·refine(EJ (H:=fun i=>(f i).H) Ha (fun j h1 h2 => ?_)).symm;have hk:j<ks.length:=by rw[R.Tg];omega
       cases hq:ks[j].k.loud ks[j].q with
       | false=>exact Qj p j _ (Qa1 hk) hq ae
       | true =>
        refine ac5 p yy YG hor j _ (Qa1 hk) hq ae ae (fun hc => ?_);have:=(h.wrote j _ (Qa1 hk) hq).1 ((hset j hc).1 h2);omega
      ·refine EJ (H:=fun i=>(f i).H) Ha (fun j h1 h2 => ?_);have hrl:=h.rle;have hk:j<ks.length:=by rw[R.Tg];omega
       cases hq:ks[j].k.loud ks[j].q with
       | false=>exact Qj p j _ (Qa1 hk) hq ae
       | true =>
        have hlj:=(h.wrote j _ (Qa1 hk) hq).2 h2;have hne:j≠i:=fun e=>by subst e;rw[hun]at hlj;cases hlj
        refine ac5 p yy YG hor j _ (Qa1 hk) hq hne ae (fun hc => ?_);rw[(hset j hc).2 ae]at hlj;cases hlj
     rw[aiM]at hcomp;obtain⟨hfi,hany⟩:=uT hrun
     let st2:St:={vars:=(f i).vars,base:=(Gr l f r).take n,loc:=(Gr l f r).drop n,aX:=false}
     have hb2:st2.base.length=n:=by
      have:=R.aiJ (i:=l.length) (Qd2 _);simp only[st2,Qq0];omega
     have hH2:st2.base++st2.loc=Gr l f r:=Xe2 n _;have hS2:bf σ st2.base.length β I (fun b=>w.heap.size<=b) (fun _=>False) (st2.base++st2.loc) w:=by
      rw[hb2,hH2];exact h.qR.ag7 (fun _ h=>h) (fun _ _ _ _ _ _ _ h=>h.elim) (fun _ _ _ _ _ _ _ _ _ _ _ h=>h)
     have hA2:bX P E cx σ β I w st2 (ev.take i) ((l.take i).map (·.dst)) a.eval o.op.operands.toList:=by
      intro ty z y v' hz hc hv';rw[hb2];exact(hop hz hc hv').1
     have aiO:=hany st2 rfl (fun q yy hq hor=>by
      have OD:=OC hrun hq hor;rw[St.fP]at OD;rw[hbase]at OD;obtain⟨oo,Jg⟩:=OD;have hpl:q.abs n<(f i).H.length:=(aT Jg)
      rw[St.fP,St.fP,hb2,hH2,hbase,afG q yy hq hor];exact Lv (H:=fun i=>(f i).H) hpl)
     refine kD hoi (hguard _ hg) (nW R.gid R.bod R.rl R.rc hG hA2 hcomp aiO (fun hl=>by simp[Fi.K.loud]at hl) hS2) (fun z w' hp=>hK _ w' ⟨r,β,?_⟩);obtain⟨β',I',hxt,hS',hR',hk'⟩:=hp;rw[hH2]at hk';rw[hb2]at hR';have hlr:(f i).H.length<=(Gr l f r).length:=by
      rw[ac4];exact R.le ae (Qd2 _)
     refine⟨I',h.same R.ord ho hsl Tj hv hqq hxt hS'.mf (aiN.mono (R.mono i hil)) ((hR'.upto aiN).mono (fun k u z hz => ?_) (fun _ h=>h) (fun _ _=>rfl))⟩;obtain⟨h1,h2⟩:=Map.cO hz;rw[hk' k u ae (fun h=>h)]at h2;exact h2
end step
end
section
section comp
variable {P:Program} {cx:Cx}
theorem yD:∀ {l:List Oper} {aL:List (Option Tmp)} {ks:List jE},mP P cx l aL=some ks->ks.length=l.length /\
  ∀ (i:Nat) (o:Oper),l[i]?=some o->∃ x,ks[i]?=some x/\aY P cx (aL++(l.take i).map (·.dst)) o=some x.k/\x.guard=o.guard/\qX (aL++(l.take i).map (·.dst)) o.guard=true/\xR cx o.dst=true
 | [],aL,ks,h=>by
  simp[mP]at h;subst h;exact⟨rfl,fun i o hi=>by simp at hi⟩
 | o::l,aL,ks,h=>by
  simp only[mP]at h;split at h
  ·rename_i hg;simp only[Qd0]at hg;split at h<;>simp at h;subst h;rename_i k ks hk hks;obtain⟨h1,h2⟩:=yD hks;refine⟨by simp[h1],fun i o' hi => ?_⟩;cases i with
   | zero =>
    simp at hi;subst hi;exact⟨_,rfl,by simpa using hk,rfl,by simpa using hg.1,hg.2⟩
   | succ i =>
    obtain⟨x,g1,g2,g3,g4,g5⟩:=h2 i o' (by simpa using hi);refine⟨x,by simpa using g1,?_,g3,?_,g5⟩
    ·simpa using g2
    ·simpa using g4
  ·cases h
theorem IZ {ms:List Nat}{ks:List jE}{i:Nat}{x:jE}(h:ks[i]?=some x):∃ y,(mU ms ks)[i]?=some y/\y.k=x.k/\y.guard=x.guard:=by
 unfold mU;rw[Qb1,X41,h];exact⟨_,rfl,rfl,rfl⟩
theorem LA {ms:List Nat}{ks:List jE}:(mU ms ks).length=ks.length:=by simp[mU]
end comp
section region
variable {P:Program} {E:Env} {cx:Cx} {σ:Nat->Option FuncId} {Wr:Nat->Prop} {wd:Nat->Prop} {rec:Nat->List FV->List ah->bJ}
theorem Trace.kept (hrl:fC rec){ks:List jE}{env:List FV}{f:Nat->St}{vs:List FV}(t:Trace E rec ks env f vs){i:Nat}(hi:i<ks.length):Kept (f i) (f (i+1)):=by
 obtain⟨v,_,h⟩:=t.step i _ (Qa1 hi);rcases h with ⟨_,_,h⟩|⟨_,h⟩
 ·rw[h];exact .refl _
 ·exact qf hrl h
theorem Trace.YH (hrl:fC rec){ks:List jE}{env:List FV}{f:Nat->St}{vs:List FV}(t:Trace E rec ks env f vs){i j:Nat}(hij:i<=j)(hj:j<=ks.length):Kept (f i) (f j):=by
 induction j with
 | zero => have : i = 0 :=ae
           subst this;exact .refl _
 | succ j ih =>
  rcases Q71 hij with he|hl
  ·subst he;exact .refl _
  ·exact(ih ae ae).trans (t.kept hrl ae)
theorem OE (ms:List Nat)(ks:List jE):(zM ms ks).length=ks.length:=by simp[zM]
theorem Tk (ms:List Nat)(ks:List jE):(Gv ms ks).length=ks.length:=by simp[Gv]
theorem OG {ms:List Nat}{ks:List jE}{i:Nat}{x:jE}(h:ks[i]?=some x)(ht:x.k.IL=x.k):∃ y,(Gv ms ks)[i]?=some y/\y.k.IL=x.k/\y.guard=x.guard:=by
 have h1:ks.zipIdx[i]?=some (x,i):=by simp[X41,h]
 unfold Gv;rw[Qb1,h1];refine⟨_,rfl,?_⟩;simp only;split
 ·rename_i n p v hk;split
  ·exact⟨ht,rfl⟩
  ·exact⟨hk.symm,rfl⟩
 ·rename_i g m a hk;split
  ·split
   ·exact⟨hk.symm,rfl⟩
   ·exact⟨ht,rfl⟩
  ·exact⟨hk.symm,rfl⟩
 ·exact⟨ht,rfl⟩
theorem LB {ms:List Nat}{ks:List jE}{i:Nat}{x:jE}(h:ks[i]?=some x)(ht:x.k.IL=x.k):∃ y,(zM ms ks)[i]?=some y/\y.k.IL=x.k/\y.guard=x.guard:=by
 have h1:ks.zipIdx[i]?=some (x,i):=by simp[X41,h]
 unfold zM;rw[Qb1,h1];refine⟨_,rfl,?_⟩;simp only;split
 ·rename_i f as hk;split
  ·exact⟨ht,rfl⟩
  ·exact⟨hk.symm,rfl⟩
 ·rename_i g m a hk;split
  ·exact⟨hk.symm,rfl⟩
  ·exact⟨ht,rfl⟩
 ·exact⟨ht,rfl⟩
theorem K.I6 {k:K}(h:k.Oj=true):k.IL=k:=by cases k<;>first|rfl|(simp[K.Oj]at h)
theorem OH (hm:P.follows .mixedOrders=true)(bA:∀ f g,cx.gid f=some g->σ g=some f)(hB:Bodies P E σ)(hrl:fC rec)(hrec:kC P E σ rec){id:Nat}{ops:Array Oper}{Q:Exit->Act->World->Prop}
  {ks:List jE} {ap:List (Nat × Nat)} {ev:List FV} {st st':St} {a:Act} {w:World} {β:Map} {I:Nat->Prop}
  (hc:kW P cx ops.toList true=some (ks,ap)) (hap:lD st ap=true) (hr:eu E rec ks st []=some (st',ev)) (hmw:jm st.base.length st' wd)
  (hS:fQ σ β I Wr wd w st) (hG:dX E σ I w) (hT:bn σ β I w st.base.length cx st.vars [] [] a)
  (hQ:∀ β' I' w' a',Ext E.mn β β' I I' Wr w w'->bf σ st.base.length β' I' Wr wd (st'.base++st'.loc) w'->bn σ β' I' w' st.base.length cx st.vars (ops.toList.map (·.dst)) ev a'->ev.length=ops.toList.length->a'.defers=a.defers->Q .normal a' w') :
  (Code.region id ops true).wp P Q a w:=by
 unfold kW at hc;split at hc
 ·cases hc
 ·rename_i TN afH;simp only[if_true]at hc;split at hc
  ·rename_i hok;simp only[Qd0]at hok;obtain⟨htm,hok⟩:=hok;simp only[Qe0,Qm0]at hc;obtain⟨rfl,rfl⟩:=hc;obtain⟨g1,g2⟩:=yD afH;obtain⟨ks1,alr,hl1,hw⟩:∃ ks1,(bif cx.Yg then zM (masks ops.toList []) TN else bif cx.far then Gv (masks ops.toList []) TN else TN)=ks1/\ks1.length=TN.length/\∀ (i:Nat) (x:jE),TN[i]?=some x->∃ y,ks1[i]?=some y/\y.k.IL=x.k/\y.guard=x.guard:=by
    cases hcw:cx.Yg with
    | true=>exact⟨_,rfl,OE _ _,fun i x hx=>LB hx (K.I6 (Qh2.1 htm x (Qa2 hx)))⟩
    | false=>cases hcf:cx.far with
     | true=>exact⟨_,rfl,Tk _ _,fun i x hx=>OG hx (K.I6 (Qh2.1 htm x (Qa2 hx)))⟩
     | false=>exact⟨_,rfl,rfl,fun i x hx=>⟨x,hx,K.I6 (Qh2.1 htm x (Qa2 hx)),rfl⟩⟩
   rw[alr]at hok hap hr;obtain⟨f,vs,e1,e2,e3,t⟩:=yz _ hr;simp only[Qv2]at e1;subst e1;generalize aiQ:mU (masks ops.toList []) ks1=ks at*;have hkl:ks.length=ops.toList.length:=by rw[<-aiQ,LA,hl1,g1]
   have hK:∀ i,i<=ops.toList.length->Kept st (f i):=fun i hi=>by rw[<-e2];exact t.YH hrl (Qr1 _) ae
   have hK':∀ i,i<=ops.toList.length->Kept (f i) st':=fun i hi=>by rw[<-e3];exact t.YH hrl ae (Qd2 _)
   have hv0:∀ (j:Nat) (tt:Tmp) (y:FV),cx.vars[j]?=some tt->st.vars[j]?=some y->wO st.base.length (st.base++st.loc).length y:=fun j tt y h1 h2=>(hT.var j tt y h1 (fM _) h2).bnd hS.dom
   have R:Tf P E cx σ rec ops.toList ks _ f ev st.base.length st.vars wd :=
    {gid:=bA,bod:=hB,rl:=hrl,rc:=hrec,Tg:=hkl,tr:=t,base:=fun i hi=>(hK i hi).base,Zd:=fun i hi=>(hK i hi).vars,ord:=IX hok,
     apart:=by rw[e2];exact hap,mw:=fun i hi=>hmw.back (hK' i hi).aX,aiI:=fun j tt y h1 h2=>by rw[e2];exact hv0 j tt y h1 h2,
     comp:=fun i o ho=>by
      obtain⟨x,a1,a2,a3,a4,a5⟩:=g2 i o ho;obtain⟨z,c1,c2,c3⟩:=hw i x a1;obtain⟨y,b1,b2,b3⟩:=IZ (ms:=masks ops.toList []) c1;rw[aiQ]at b1;exact⟨y,b1,by rw[b2,c2];simpa using a2,by rw[b3,c3];exact a3,by simpa using a4,a5⟩}
   refine wp_region_any hm ?_
   change wpAny P .any ops Q ops.size (Array.replicate ops.size false) a w.drew
   have hG':dX E σ I w.drew:=hG.mono (fun _ h=>h) (fun _ _=>rfl);have hrep:∀ j,(Array.replicate ops.size false).getD j false=false:=fun j=>by
    rcases Qg0 j ops.size with h|h
    ·simp[h]
    ·simp[h]
   have hH0:(f 0).H=st.base++st.loc:=by rw[e2];rfl
   refine Td (fun listed a' w'=>∃ r β' I',Inv E.mn cx σ ops.toList ks f ev st.base.length st.vars Wr wd β I w.drew a.defers r β' I' listed a' w') (fun i o e hi he hb=>R.ord.edge i o e (by rw[Qt0];exact hi) he hb)
    (fun listed a' w' i hs hcl ⟨r,β',I',hI⟩ hi Kn hKn=>R.step rfl hG' hs hcl hI hi Kn hKn) ?_ ops.size _ a w.drew aC (fun j o e _ hl=>by rw[hrep j]at hl;cases hl) aC ?_
   ·rintro listed a' w' ⟨r,β',I',hI⟩ hall;have hfull:Gr ops.toList f r=st'.base++st'.loc:=by
     have h1:Gr ops.toList f ops.toList.length=Gr ops.toList f r:=by
      refine GM (H:=fun i=>(f i).H) hI.rle (fun j h1 h2 => ?_);have hk:j<ks.length:=ae;cases hq:ks[j].k.loud ks[j].q with
      | false =>
       obtain⟨new,hn⟩:=R.quiet (Qa1 hk) hq;exact gZ (H:=fun i=>(f i).H) h2 hn
      | true =>
       have:=(hI.wrote j _ (Qa1 hk) hq).1 (hall j (by simpa using h2));omega
     rw[<-h1];have:=Lu (H:=fun i=>(f i).H) (m:=ops.toList.length);unfold Gr;rw[this,<-hkl,e3];rfl
    have Lx:=hI.qR;rw[hfull]at Lx;refine hQ β' I' w' a' ((ym β I Wr w).trans hI.ext) Lx ⟨hI.size,fun j tt y h1 h2 h3 => ?_,fun tt j y h1 h2 => ?_⟩ (by rw[t.len,hkl]) hI.dfr
    ·refine hI.var j tt y h1 (fun i o ho ht => ?_) h3;refine absurd ?_ (yB h2);rw[Qg1];exact⟨o,Qa2 ho,ht⟩
    ·have h3:=rA h1;simp only[Qb1,Qf1]at h3;obtain⟨o,h4,h5⟩:=h3;have hj:=(aT h4)
     exact hI.loc j o tt y h4 h5 (hall j (by simpa using hj)) h2
   ·have hG0:Gr ops.toList f 0=(st.base++st.loc)++tails (fun i=>(f i).H) (ops.toList.length-0) 0:=by
     unfold Gr full;simp only[hH0]
    refine⟨0,β,I,⟨Qr1 _,.inl rfl,fun j x _ _=>by rw[hrep j];simp,?_,Ext.refl _ _ _ _,fun j hj _ k u h1 _ => ?_,fun i _ hi k cs x _ h2 h3 => ?_,fun j y hl=>absurd ((hrep j).symm.trans hl) aC,hT.size,
     fun j o tt y _ _ hl=>absurd ((hrep j).symm.trans hl) aC,fun j tt y h1 _ h3=>aI.mono (w:=w) (w':=w.drew) (fun _ _ _ h=>h) (fun _ h=>h) (fun _ _=>rfl) (hT.var j tt y h1 (fM _) h3),rfl⟩⟩
    ·rw[hG0];exact(drew_grow hS).app _
    ·cases hβ:β k u with
     | none=>rfl
     | some y =>
      have h4:=hS.dom k u y hβ;have h5:=R.le (i:=0) (j:=j) (Qr1 _) ae;rw[hH0]at h5;omega
    ·have hk:=hS.dom k 0 x h3;rw[hG0,Qa0 hk]at h2;obtain⟨b,bo,cap⟩:=x;obtain⟨_,c,e,_,b2,b3⟩:=hS.box k cs b bo cap h2 h3;intro cc hcc;obtain⟨j,z,d1,d2⟩:=wP b2 hcc;have h5:=R.le (i:=0) (j:=i) (Qr1 _) hi;rw[hH0]at h5;exact((b3 j cc z d1 d2).bnd hS.dom).mono h5
  ·cases hc
theorem I7 (hm:P.follows .mixedOrders=true)(bA:∀ f g,cx.gid f=some g->σ g=some f)(hB:Bodies P E σ)(hrl:fC rec)(hrec:kC P E σ rec){id:Nat}{ops:Array Oper}{draw:Bool}{Q:Exit->Act->World->Prop}
  {ks:List jE} {ap:List (Nat × Nat)} {ev:List FV} {st st':St} {a:Act} {w:World} {β:Map} {I:Nat->Prop}
  (hc:kW P cx ops.toList draw=some (ks,ap)) (hap:lD st ap=true) (hr:eu E rec ks st []=some (st',ev)) (hmw:jm st.base.length st' wd)
  (hS:fQ σ β I Wr wd w st) (hG:dX E σ I w) (hT:bn σ β I w st.base.length cx st.vars [] [] a)
  (hQ:∀ β' I' w' a',Ext E.mn β β' I I' Wr w w'->bf σ st.base.length β' I' Wr wd (st'.base++st'.loc) w'->bn σ β' I' w' st.base.length cx st.vars (ops.toList.map (·.dst)) ev a'->ev.length=ops.toList.length->a'.defers=a.defers->Q .normal a' w') :
  (Code.region id ops draw).wp P Q a w:=by
 cases draw with
 | true=>exact OH hm bA hB hrl hrec hc hap hr hmw hS hG hT hQ
 | false =>
  unfold kW at hc;split at hc
  ·cases hc
  ·rename_i TN afH;simp only[Qh1,if_false,Qe0,Qm0]at hc;obtain⟨rfl,rfl⟩:=hc;exact wp_region_list (uL bA hB hrl hrec ops.toList afH hr rfl (fun j d h=>by simp at h) (fun j=>by simp) hmw hS hG hT (fun β' I' w' a' h1 h2 h3 h4 h5=>hQ β' I' w' a' h1 h2 (by simpa using h3) (by simpa using h4) h5))
end region
end
end Fi
