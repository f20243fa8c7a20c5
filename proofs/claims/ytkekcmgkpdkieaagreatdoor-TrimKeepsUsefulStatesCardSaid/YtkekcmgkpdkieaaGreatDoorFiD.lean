import Derived.Test.YtkekcmgkpdkieaaGreatDoorFiC
import Derived.Tactics
import Derived.Orders
set_option linter.unusedVariables false
set_option linter.unusedSimpArgs false
namespace Fi
open Go
section
variable {mn:Prop}
theorem eu (t:Tmp):eQ [] t=none:=by simp[eQ]
theorem rM (aM:List (Option Tmp))(d:Option Tmp)(t:Tmp):eQ (aM++[d]) t=if d=some t then some aM.length else eQ aM t:=by
 unfold eQ;rw[List.reverse_append,List.reverse_singleton,List.singleton_append]
 by_cases h:d=some t
 ·subst h;simp[List.idxOf?,Xt2]
 ·have hb:(d==some t)=false:=by simpa using h
  simp only[List.idxOf?,Xt2,hb,h,if_false];cases hc:List.findIdx? (fun x=>x==some t) aM.reverse with
  | none=>simp
  | some i =>
   simp only[Q70,Qh1,if_false,Qb0,Q12]
   congr 1
   omega
theorem p9 {aM:List (Option Tmp)}{t:Tmp}{j:Nat}(h:eQ aM t=some j):aM[j]?=some (some t):=by
 unfold eQ at h;split at h<;>simp at h;rename_i i hi;subst h;rw[List.idxOf?,Qr1]at hi;obtain⟨hl,h1,_⟩:=hi;rw[List.length_reverse]at hl;rw[List.getElem_reverse]at h1;rw[Qa1 ae];simpa using h1
theorem eval_put (a:Act)(d:Option Tmp)(x:Value)(t:Tmp)(hd:∀ u,d=some u->u<a.tmps.size):(a.put d x).eval (.tmp t)=if d=some t then x else a.eval (.tmp t):=by
 cases d with
 | none=>simp[Act.put]
 | some u =>
  have hu:=hd u rfl;simp only[Act.put,Act.eval,Qd2]
  by_cases h:u=t
  ·subst h;simp[hu]
  ·rw[if_neg h,Qr2,Qr2,Array.getElem?_setIfInBounds_ne h]
theorem BM (a:Act)(d:Option Tmp)(x:Value):(a.put d x).tmps.size=a.tmps.size:=by cases d<;>simp[Act.put]
theorem put_defers (a:Act)(d:Option Tmp)(x:Value):(a.put d x).defers=a.defers:=by cases d<;>rfl
section tmps
variable {P:Program} {E:Env} {cx:Cx} {σ:Nat->Option FuncId} {β β':Map} {I I' Wr:Nat->Prop} {wd:Nat->Prop} {w w':World} {n:Nat} {vars:List FV} {env:List FV} {aM:List (Option Tmp)} {a:Act}
structure a_ (σ:Nat->Option FuncId)(β:Map)(I:Nat->Prop)(w:World)(n:Nat)(cx:Cx)(vars:List FV)(aM:List (Option Tmp))(env:List FV)(a:Act):Prop where
 size:a.tmps.size=cx.ntmps
 var:∀ (j:Nat) (t:Tmp) (y:FV),cx.vars[j]?=some t->eQ aM t=none->vars[j]?=some y->aI σ β I w n y (a.eval (.tmp t))
 loc:∀ (t:Tmp) (j:Nat) (y:FV),eQ aM t=some j->env[j]?=some y->aI σ β I w n y (a.eval (.tmp t))
theorem a_.mono (h:a_ σ β I w n cx vars aM env a)(hm:∀ k v x,β k v=some x->β' k v=some x)(hi:∀ b,I b->I' b)(hk:∀ b,I b->w'.heap[b]?=w.heap[b]?):a_ σ β' I' w' n cx vars aM env a :=
 ⟨h.size,fun j t y h1 h2 h3=>(h.var j t y h1 h2 h3).mono hm hi hk,fun t j y h1 h2=>(h.loc t j y h1 h2).mono hm hi hk⟩
theorem a_.ext (h:a_ σ β I w n cx vars aM env a)(hx:Ext mn β β' I I' Wr w w'):a_ σ β' I' w' n cx vars aM env a:=h.mono hx.bm hx.im hx.eB
theorem a_.put (h:a_ σ β I w n cx vars aM env a)(hl:env.length=aM.length){d:Option Tmp}(hd:wB cx d=true){v:FV}{x:Value}(hr:aI σ β I w n v x) :
  a_ σ β I w n cx vars (aM++[d]) (env++[v]) (a.put d x):=by
 have hd':∀ u,d=some u->u<a.tmps.size:=by
  intro u hu;subst hu;rw[h.size];simpa[wB] using hd
 refine⟨by rw[BM];exact h.size,?_,?_⟩
 ·intro j t y h1 h2 h3;rw[rM]at h2;split at h2
  ·cases h2
  ·rename_i hne;rw[eval_put _ _ _ _ hd',if_neg hne];exact h.var j t y h1 h2 h3
 ·intro t j y h1 h2;rw[rM]at h1;rw[eval_put _ _ _ _ hd'];split at h1
  ·rename_i he;cases h1;rw[if_pos he];rw[<-hl]at h2;simp at h2;subst h2;exact hr
  ·rename_i hne;rw[if_neg hne];have hj:=(Qm0.1 (p9 h1)).1;rw[Qa0 ae]at h2;exact h.loc t j y h1 h2
theorem nE {l:List Tmp}{t:Tmp}{j:Nat}(h:l.idxOf? t=some j):l[j]?=some t:=by
 rw[List.idxOf?,Qr1]at h;obtain⟨hl,h1,_⟩:=h;rw[Qa1 hl];simpa using h1
theorem a_.args (h:a_ σ β I w n cx vars aM env a)(bA:∀ f g,cx.gid f=some g->σ g=some f)(hG:dE E σ I w){st:St}(hn:st.base.length=n)(hv:st.vars=vars)(xs:List Operand) :
  bV P E cx σ β I w st env aM a.eval xs:=by
 intro ty x y f hm hc hf;clear hm;subst hn;subst hv;unfold iB at hc;split at hc
 ·rename_i t;split at hc
  ·rename_i j hj;cases hc;exact h.loc t j f hj hf
  ·rename_i hno;split at hc<;>simp at hc;subst hc;rename_i j hj;exact h.var j t f (nE hj) hno hf
 ·split at hc<;>simp at hc;subst hc;rename_i hx;simp only[cu,Qd2]at hf;subst hf;exact .d (rJ bA hx)
 ·split at hc<;>simp at hc;subst hc;rename_i hx;simp only[cu,Qd2]at hf;subst hf;exact .d (.fn (bA _ _ hx))
 ·cases hc;simp only[cu]at hf;split at hf<;>simp at hf;subst hf;rename_i z hz;obtain⟨h1,h2,h3,_⟩:=hG _ _ hz;exact .rc h1 h2 h3
theorem a_.guard (h:a_ σ β I w n cx vars aM env a){ops:Array Oper}{o:Oper}(hpre:∀ (j:Nat) (d:Option Tmp),aM[j]?=some d->(ops[j]?).bind (·.dst)=d)(hg:pM aM o.guard=true){b:Bool}(hb:kS env o.guard=some b) :
  Region.wanted o (yielded ops a.tmps)=b:=by
 unfold Region.wanted;unfold kS at hb;cases hgd:o.guard with
 | none=>rw[hgd]at hb;simpa using hb
 | some p =>
  obtain⟨j,want⟩:=p;rw[hgd]at hb hg;simp only[pM]at hg;split at hg
  ·rename_i t ht;have hl:eQ aM t=some j:=by simpa using hg
   have hd:=hpre j _ ht;simp only at hb ⊢;have hy:yielded ops a.tmps j=match a.tmps[t]? with|some (.bool b)=>some b|_=>none:=by
    unfold yielded;rw[hd];rfl
   rw[hy];cases hev:env[j]? with
   | none=>rw[hev]at hb;cases hb
   | some y =>
    have hr:=h.loc t j y hl hev;rw[hev]at hb;split at hb
    ·rename_i c he;cases he;cases hb;cases hr with
     | d hr =>
      generalize hz:a.eval (.tmp t)=z at hr;cases hr;have:a.tmps[t]?=some (.bool c):=by
       simp only[Act.eval,Qr2]at hz;cases hq:a.tmps[t]? with
       | none=>rw[hq]at hz;simp[undef]at hz
       | some q=>rw[hq]at hz;simp at hz;rw[hz]
      rw[this];cases c<;>cases want<;>rfl
    ·rename_i he;cases he;cases hb;cases hr with
     | d hr =>
      generalize hz:a.eval (.tmp t)=z at hr;cases hr with
      | @t _ vs hl' h2 =>
       have hvs:vs=#[]:=by simpa using hl'
       subst hvs;simp only[Act.eval,Qr2]at hz;cases hq:a.tmps[t]? with
       | none=>simp
       | some q=>rw[hq]at hz;simp at hz;rw[hz];simp
    ·cases hb
  ·cases hg
end tmps
end
section
theorem iN.back {n:Nat}{st st':St}{wd:Nat->Prop}(h:iN n st' wd)(k:st.aQ=true->st'.aQ=true):iN n st wd:=⟨h.1,fun hd=>h.2 (k hd)⟩
section wO
variable {σ:Nat->Option FuncId} {β:Map} {I Wr:Nat->Prop} {wd:Nat->Prop} {w:World} {n:Nat}
theorem aI.wO:(v:FV)->{x:Value}->aI σ β I w n (v.aA n) x->aI σ β I w n v x
 | .u,x,_=>.u x
 | .d y,x,h=>h
 | .r (.loc i) off,x,h=>by
  simp only[FV.aA]at h;cases h with
  | r h=>exact .r (p:=.loc i) h
 | .r (.old i) off,x,h=>h
 | .e (.loc i) az sz j off,x,h=>by
  simp only[FV.aA]at h;cases h with
  | e h=>exact .e (p:=.loc i) h
 | .e (.old i) az sz j off,x,h=>h
 | .rc y,x,h=>h
 | .ls (.loc i) az sz off len,x,h=>by
  simp only[FV.aA]at h;cases h with
  | ls h hl ho=>exact .ls (p:=.loc i) h hl ho
 | .ls (.old i) az sz off len,x,h=>h
 | .m (.loc i),x,h=>by
  simp only[FV.aA]at h;cases h with
  | m h=>exact .m (p:=.loc i) h
 | .m (.old i),x,h=>h
 | .z sz,x,h=>h
 | .f g first captured,x,h=>by
  simp only[FV.aA,d_]at h;cases h with
  | f h h1 h2 hv hu =>
   refine .f h (by simpa using h1) (by simpa using h2) (fun i c x hc hx => ?_) (fun i c x hc hx => ?_)
   ·exact aI.wO c (hv i _ x (by rw[Qc1,hc];rfl) hx)
   ·exact aI.wO c (hu i _ x (by rw[Qc1,hc];rfl) hx)
 | .a cs,x,h=>by
  simp only[FV.aA,d_]at h;cases h with
  | a hl h =>
   refine .a (by simpa using hl) (fun i c x hc hx => ?_);exact aI.wO c (h i _ x (by rw[Qc1,hc];rfl) hx)
 | .t cs,x,h=>by
  simp only[FV.aA,d_]at h;cases h with
  | t hl h =>
   refine .t (by simpa using hl) (fun i c x hc hx => ?_);exact aI.wO c (h i _ x (by rw[Qc1,hc];rfl) hx)
termination_by v=>sizeOf v
decreasing_by
 all_goals
  have:=Xo2 (Qb2 hc);simp;omega
theorem ai.ku {o:ai}{cs:List FV}{n:Nat}(h:o=.box cs):o.aA n=.box (cs.map (FV.aA n)):=by subst h;simp[ai.aA,d_]
theorem aZ.wO {H H':List ai}(h:aZ σ n β I Wr wd H w)(hl:H.length<=H'.length)(hm:∀ (k:Nat) (o':ai),H'[k]?=some o'->H[k]?=some o'\/H[k]?=some (o'.aA n)):aZ σ n β I Wr wd H' w:=by
 have hlive:∀ {k:Nat} {o':ai},H'[k]?=some o'->∃ o,H[k]?=some o/\(∀ m,o.live β m=o'.live β m)/\(o=o'\/o=o'.aA n):=by
  intro k o' hk;rcases hm k o' hk with h1|h1
  ·exact⟨_,h1,fun _=>rfl,.inl rfl⟩
  ·exact⟨_,h1,fun m=>ai.uP _ _ _,.inr rfl⟩
 refine⟨h.kR,h.blt,h.jE,fun k v x hx=>Ql1 (h.dom k v x hx) hl,?_,?_,?_,?_,?_,?_,?_⟩
 ·intro k az sz es v x h1 h2;rcases hm k _ h1 with h3|h3
  ·exact h.lJ _ _ _ _ _ _ h3 h2
  ·exact h.lJ _ _ _ _ _ _ h3 h2
 ·intro k o b bo cap h1 h2;obtain⟨o',h3,h4,_⟩:=hlive h1;rw[<-h4]at h2;exact h.wr k o' b bo cap h3 h2
 ·intro k cs b bo cap h1 h2;rcases hm k _ h1 with h3|h3
  ·exact h.box k cs b bo cap h3 h2
  ·rw[ai.ku rfl]at h3;obtain⟨a0,c,e',a1,a2,a3⟩:=h.box k _ b bo cap h3 h2;refine⟨a0,c,e',a1,by simpa using a2,fun j f x e1 e2 => ?_⟩;exact aI.wO f (a3 j _ x (by rw[Qc1,e1];rfl) e2)
 ·intro k az sz es b bo cap h1 h2;rcases hm k _ h1 with h3|h3
  ·exact h.row _ _ _ _ _ _ _ h3 h2
  ·exact h.row _ _ _ _ _ _ _ h3 h2
 ·intro k az sz es b bo cap h1 h2;rcases hm k _ h1 with h3|h3
  ·exact h.fU _ _ _ _ _ _ _ h3 h2
  ·exact h.fU _ _ _ _ _ _ _ h3 h2
 ·intro k k' o1 o2 b bo cap uK cap' h1 h2 h3 h4;obtain⟨OY,h5,h6,_⟩:=hlive h1;obtain⟨OZ,h7,h8,_⟩:=hlive h2;rw[<-h6]at h3;rw[<-h8]at h4;exact h.inj k k' OY OZ b bo cap uK cap' h5 h7 h3 h4
 ·intro k es b bo cap h1 h2;rcases hm k _ h1 with h3|h3
  ·exact h.map _ _ _ _ _ h3 h2
  ·exact h.map _ _ _ _ _ h3 h2
end wO
section seq
variable {P:Program} {E:Env} {cx:Cx} {σ:Nat->Option FuncId} {Wr:Nat->Prop} {wd:Nat->Prop} {rec:Nat->List FV->List ai->bF}
theorem mI (bA:∀ f g,cx.gid f=some g->σ g=some f)(hB:Bodies P E σ)(hrl:dX rec)(hrec:jB P E σ rec){q:Bool}{β:Map}{I:Nat->Prop}{w:World}{st st':St}{aM:List (Option Tmp)}{env:List FV}{a:Act}{o:Oper}{k:K}{v:FV}
  (hG:dE E σ I w) (hT:bV P E cx σ β I w st env aM a.eval o.op.operands.toList) (hc:aX P cx aM o=some k) (hk:runK E rec q st env k=some (v,st'))
  (hdt:k.loud q=true->iN st.base.length st' wd) (hS:eH σ β I Wr wd w st) :
  Yields P o a.eval w (Post E.mn σ st.base.length (st.base++st.loc).length β I Wr wd w st' v) :=
 LB (fun _=>rfl) (fun _=>rfl) bA hB hrl hrec hG hc hk hdt hS hT
theorem yh (bA:∀ f g,cx.gid f=some g->σ g=some f)(hB:Bodies P E σ)(hrl:dX rec)(hrec:jB P E σ rec){q:Bool}{β:Map}{I:Nat->Prop}{w:World}{st st':St}{aM:List (Option Tmp)}{env:List FV}{a:Act}{o:Oper}{k:K}{v:FV}
  (hG:dE E σ I w) (hT:bV P E cx σ β I w st env aM a.eval o.op.operands.toList) (hc:aX P cx aM o=some k.F4) (hk:runK E rec q st env k=some (v,st'))
  (hdt:k.loud q=true->iN st.base.length st' wd) (hS:eH σ β I Wr wd w st) :
  Yields P o a.eval w (Post E.mn σ st.base.length (st.base++st.loc).length β I Wr wd w st' v):=by
 cases k with
 | ll f as ps =>
  obtain⟨_,st1,h1,h2⟩:=Et hk;have hd:iN st.base.length st1 wd:=by
   have:=hdt rfl;rcases h2 with ⟨rfl,_⟩|⟨_,rfl⟩
   ·exact this
   ·exact this
  have hy:=mI bA hB hrl hrec hG hT hc h1 (fun _=>hd) hS;rcases h2 with ⟨rfl,_⟩|⟨e,rfl⟩
  ·exact hy
  ·have hkp:=nZ hrl h1;refine hy.mono fun x w' ⟨β',I',g1,g2,g3,g4⟩=>⟨β',I',g1,?_,g3,g4⟩
   have hlen:st.loc.length<=st1.loc.length:=by
    have h7:=congrArg List.length e;simp only[Ql2,Qk0]at h7;omega
   refine g2.wO (by simp only[Qb0,Q91];omega) (fun k o' hk' => ?_);have hb1:=hkp.base;simp only at hk' ⊢;rcases Qg2 k st1.base.length with hlt|hge
   ·rw[Qa0 hlt]at hk' ⊢;exact .inl hk'
   ·rw[Qb1 hge]at hk' ⊢;rcases Qg2 (k-st1.base.length) st.loc.length with h5|h5
    ·rw[Qa0 h5]at hk'
     right
     have h6:(st1.loc.take st.loc.length)[k-st1.base.length]?=some (o'.aA st.base.length):=by rw[e,Qc1,hk'];rfl
     rw[Qp1,if_pos h5]at h6;exact h6
    ·rw[Qb1 h5,Qx0]at hk'
     left
     rw[<-hk']
     congr 1
     omega
 | iI n p x ps=>exact mI (k:=.store n p x) bA hB hrl hrec hG hT hc (nC hk).2 (fun _=>hdt rfl) hS
 | kK agg n p ps=>exact mI (k:=.load agg n p) bA hB hrl hrec hG hT hc (j5 hk).2.1 (fun h=>by simp[K.loud]at h) hS
 | jc agg n p=>exact mI (k:=.load agg n p) bA hB hrl hrec hG hT hc (mE hk).1 (fun h=>by simp[K.loud]at h) hS
 | _=>exact mI bA hB hrl hrec hG hT hc hk hdt hS
theorem sO (bA:∀ f g,cx.gid f=some g->σ g=some f)(hB:Bodies P E σ)(hrl:dX rec)(hrec:jB P E σ rec){ops:Array Oper}{Q:Exit->Act->World->Prop} :
  ∀ (l:List Oper) {ks:List iU} {aM:List (Option Tmp)} {env ev:List FV} {st st':St} {a:Act} {w:World} {β:Map} {I:Nat->Prop},
   lK P cx l aM=some ks->dJ E rec ks st env=some (st',ev)->env.length=aM.length->(∀ (j:Nat) (d:Option Tmp),aM[j]?=some d->(ops[j]?).bind (·.dst)=d) ->
   (∀ j,l[j]?=ops[aM.length+j]?)->iN st.base.length st' wd->eH σ β I Wr wd w st->dE E σ I w->a_ σ β I w st.base.length cx st.vars aM env a ->
   (∀ β' I' w' a',Ext E.mn β β' I I' Wr w w'->aZ σ st.base.length β' I' Wr wd (st'.base++st'.loc) w'->a_ σ β' I' w' st.base.length cx st.vars (aM++l.map (·.dst)) ev a'->ev.length=(aM++l.map (·.dst)).length->a'.defers=a.defers->Q .normal a' w') ->
   wpList P ops Q l a w
 | [],ks,aM,env,ev,st,st',a,w,β,I,hc,hr,hl,hpre,hat,hm,hS,hG,hT,hQ=>by
  simp[lK]at hc;subst hc;simp only[dJ,Qd2,Qo2]at hr;obtain⟨rfl,rfl⟩:=hr;exact hQ β I w a (Ext.refl _ _ _ _) hS (by simpa using hT) (by simpa using hl) rfl
 | o::l,ks,aM,env,ev,st,st',a,w,β,I,hc,hr,hl,hpre,hat,hm,hS,hG,hT,hQ=>by
  simp only[lK]at hc;split at hc
  ·rename_i hgd;simp only[Qa2]at hgd;split at hc<;>simp at hc;subst hc;rename_i k ks hk hks;have h0:ops[aM.length]?=some o:=by simpa using(hat 0).symm
   have hpre':∀ (j:Nat) (d:Option Tmp),(aM++[o.dst])[j]?=some d->(ops[j]?).bind (·.dst)=d:=by
    intro j d hj;rcases Qg2 j aM.length with h'|h'
    ·rw[Qa0 h']at hj;exact hpre j d hj
    ·rw[Qb1 h']at hj;have hj0:j-aM.length=0:=by
      rcases Qq0 (j-aM.length) with h|h
      ·exact h
      ·rw[Qq2 (by simp;omega)]at hj;cases hj
     rw[hj0]at hj;have:j=aM.length:=ae;subst this;rw[h0];simpa using hj
   have hat':∀ j,l[j]?=ops[(aM++[o.dst]).length+j]?:=by
    intro j;have:=hat (j+1);simp only[Qb0,Q12];rw[show aM.length+1+j=aM.length+(j+1) by omega,<-this];simp
   simp only[dJ]at hr;unfold wpList;split at hr
   ·cases hr
   ·rename_i hgv;have hw:=hT.guard (ops:=ops) hpre hgd.1 hgv;rw[hw];simp only[Qh1,if_false];have hT':=hT.put hl hgd.2 (v:=.d (.t [])) (x:=undef) kP;refine sO bA hB hrl hrec l hks hr (by simp[hl]) hpre' hat' hm hS hG hT' (fun β' I' w' a' h1 h2 h3 h4 h5=>hQ β' I' w' a' h1 h2 (by simpa using h3) (by simpa using h4) (by rw[h5,put_defers]))
   ·rename_i hgv;split at hr
    ·cases hr
    ·rename_i v st1 hrun;have hw:=hT.guard (ops:=ops) hpre hgd.1 hgv;rw[hw];simp only[if_true];have hkept:=nZ hrl hrun;have acO:=kM hrl _ hr;have hm1:iN st.base.length st1 wd:=hm.back acO.aQ;refine .inl ((mI bA hB hrl hrec hG (hT.args bA hG rfl rfl _) hk hrun (fun _=>hm1) hS).wp (fun x w' hp => ?_));obtain⟨β1,I1,hx,hS1,hR,_⟩:=hp;have hT1:=(hT.ext hx).put hl hgd.2 hR;rw[<-hkept.base,<-hkept.vars]at hT1;rw[<-hkept.base]at hS1;refine sO bA hB hrl hrec l hks hr (by simp[hl]) hpre' hat' (by rw[hkept.base];exact hm) hS1 (hG.mono hx.im hx.eB) hT1 (fun β' I' w' a' h1 h2 h3 h4 h5 => ?_);rw[hkept.base]at h2 h3;rw[hkept.vars]at h3;exact hQ β' I' w' a' (hx.trans h1) h2 (by simpa using h3) (by simpa using h4) (by rw[h5,put_defers])
  ·cases hc
end seq
end
section
def St.H (st:St):List ai:=st.base++st.loc
section run
variable {E:Env} {rec:Nat->List FV->List ai->bF} {q:Bool} {st st':St} {env:List FV} {k:K} {v:FV}
theorem yj {st2:St}(h:st2.vars=st.vars)(x:Arg):cu E st2 env x=cu E st env x:=by cases x<;>simp[cu,h]
theorem uQ {st2:St}(h:st2.vars=st.vars):∀ xs:List Arg,eT E st2 env xs=eT E st env xs
 | []=>rfl
 | x::xs=>by simp only[eT,yj h,uQ h xs]
theorem kz (rs:List Ref)(st:St):(aL st rs).H.length=st.H.length:=by
 simp[St.H,(Kept.aL rs st).base,nL]
theorem Vn (hr:dX rec)(h:runK E rec q st env k=some (v,st')):st.H.length<=st'.H.length:=by
 have hs:∀ {x y:FV} {a b:St},some (x,a)=some (y,b)->a=b:=fun h=>by cases h;rfl
 have hfull:∀ {q:Bool} {st':St} {g:Nat} {xs:List FV} {rows:List Ref},cO rec q st g xs rows=some (v,st')->st.H.length<=st'.H.length:=by
  intro q st' g xs rows h;unfold cO at h;split at h
  ·split at h
   ·cases hs h;exact Qd1 _
   ·split at h
    ·cases h
    ·cases hs h;exact Nat.le_of_eq (kz _ _).symm
  ·rename_i B hB;split at h
   ·cases h
   ·have:=hr _ _ _ _ _ hB;cases hs h;simp only[St.H,Xc0];have hl:=kz rows st;simp only[St.H,Qk0]at this hl;rw[hl]at this;exact this
  ·cases h
 have hcall:∀ {q:Bool} {st':St} {g:Nat} {xs:List FV},fC rec q st g xs=some (v,st')->st.H.length<=st'.H.length:=by
  intro q st' g xs h;unfold fC at h;split at h
  ·cases h
  ·split at h
   ·unfold dR at h;split at h
    ·split at h
     ·cases hs h;exact Qd1 _
     ·split at h
      ·cases h
      ·cases hs h;exact Nat.le_of_eq (kz _ _).symm
    ·split at h
     ·cases hs h;simp[St.H]
     ·split at h
      ·cases h
      ·cases hs h;have:=kz (xs.flatMap FV.rows) st;simp only[St.H,Qb0,Qk0]at this ⊢;omega
    ·cases h
   ·exact hfull h
 have aaa:∀ {g:Nat} {xs:List FV},dK E rec st g xs=some (v,st')->st.H.length<=st'.H.length:=by
  intro g xs h;obtain⟨st1,h1,h2⟩:=ky h;rcases h2 with ⟨rfl,_⟩|⟨_,rfl⟩
  ·exact hcall h1
  ·have:=(kL hr h1).base;simp only[St.H,Qb0,Q91];omega
 cases k
 case call g args =>
  simp only[runK]at h;split at h
  ·exact hcall h
  ·cases h
 case mr f args =>
  simp only[runK]at h;split at h
  ·exact hcall h
  ·exact hcall h
  ·cases h
 case qo g args =>
  simp only[runK]at h;split at h
  ·exact hfull h
  ·cases h
 case jc agg n p =>
  replace h:=(mE h).1;simp only[runK]at h
  (repeat' split at h)<;>first
   | (cases h;done)
   | (cases hs h;exact Qd1 _)
 case ll f args ps =>
  simp only[runK]at h;split at h
  ·split at h
   ·exact aaa h
   ·exact aaa h
   ·cases h
  ·cases h
 case kK agg n p ps =>
  replace h:=(j5 h).2.1;simp only[runK]at h
  (repeat' split at h)<;>first
   | (cases h;done)
   | (cases hs h;exact Qd1 _)
 case iI n p x ps =>
  replace h:=(nC h).2;simp only[runK]at h
  (repeat' split at h)<;>first
   | (cases h;done)
   | (cases hs h;simp[St.H,Fi.jv,nA];done)
 all_goals
  simp only[runK]at h
  (repeat' split at h)<;>first
   | (cases h;done)
   | (cases hs h;exact Qd1 _)
   | (cases hs h;simp[St.H,St.push];done)
   | (cases hs h;simp[St.H,Fi.jv,nA];done)
theorem runK_pure (hm:k.mem=false)(h:runK E rec q st env k=some (v,st')):st'=st/\∀ st2:St,st2.vars=st.vars->runK E rec q st2 env k=some (v,st2):=by
 have hs:∀ {x y:FV} {a b:St},some (x,a)=some (y,b)->x=y/\a=b:=fun h=>by cases h;exact⟨rfl,rfl⟩
 cases k<;>first
  | (simp[K.mem]at hm;done)
  | skip
 case lit sz agg z nn parts =>
  have hn:nn≠0:=by simpa[K.mem] using hm
  simp only[runK,if_neg hn]at h;refine⟨?_,fun st2 h2 => ?_⟩
  ·(repeat' split at h)<;>first
    | (cases h;done)
    | (exact(hs h).2.symm)
  ·have hl:∀ xs,eT E st2 env xs=eT E st env xs:=uQ h2;simp only[runK,hl,if_neg hn]
   (repeat' split at h)<;>first
    | (cases h;done)
    | (cases h;simp_all;done)
 all_goals
  simp only[runK]at h;refine⟨?_,fun st2 h2 => ?_⟩
  ·(repeat' split at h)<;>first
    | (cases h;done)
    | (exact(hs h).2.symm)
  ·have ha:cu E st2 env=cu E st env:=funext (yj h2);have hl:∀ xs,eT E st2 env xs=eT E st env xs:=uQ h2;simp only[runK,ha,hl]
   (repeat' split at h)<;>first
    | (cases h;done)
    | (cases h;simp_all;done)
    | (cases h;simp_all;omega)
theorem sU {agg:Bool}{m:Nat}{x:Arg}(h:runK E rec q st env (.load agg m x)=some (v,st')) :
  st'=st/\∀ st2:St,st2.vars=st.vars->(∀ (p:Ref) (y:FV),cu E st env x=some y->((∃ off,y=.r p off)\/∃ az sz i off,y=.e p az sz i off)->st2.heap p=st.heap p)->runK E rec q st2 env (.load agg m x)=some (v,st2):=by
 have hs:∀ {x y:FV} {a b:St},some (x,a)=some (y,b)->x=y/\a=b:=fun h=>by cases h;exact⟨rfl,rfl⟩
 simp only[runK]at h;refine⟨?_,fun st2 h2 hh => ?_⟩
 ·(repeat' split at h)<;>first
   | (cases h;done)
   | (exact(hs h).2.symm)
 ·simp only[runK,yj h2 x];generalize cu E st env x=y at*;cases y with
  | none=>cases h
  | some y =>
   cases y<;>first
    | (cases h;done)
    | skip
   ·rename_i p off;simp only[hh p _ rfl (.inl ⟨_,rfl⟩)]
    (repeat' split at h)<;>first
     | (cases h;done)
     | (cases h;simp_all;done)
   ·rename_i p az sz i off;simp only[hh p _ rfl (.inr ⟨_,_,_,_,rfl⟩)]
    (repeat' split at h)<;>first
     | (cases h;done)
     | (cases h;simp_all;done)
   ·(repeat' split at h)<;>first
     | (cases h;done)
     | (cases h;simp_all;done)
theorem LF {m:Nat}{b:Nat}{x:Arg}{p:Ref}{o0:Nat}(hb:st.vars[b]?=some (.r p o0))(h:runK E rec q st env (.store m (.var b) x)=some (v,st')):∃ o,st'.H=st.H.set (p.abs st.base.length) o:=by
 have hs:∀ {x y:FV} {a b:St},some (x,a)=some (y,b)->x=y/\a=b:=fun h=>by cases h;exact⟨rfl,rfl⟩
 simp only[runK,cu,hb]at h;split at h
 ·rename_i y1 y2 q' off v' e1 e2;cases e1;split at h
  ·split at h
   ·rw[<-(hs h).2];exact⟨_,St.dm _ _ _⟩
   ·cases h
  ·cases h
 ·rename_i h1 h2;cases h1
 ·cases h
theorem Vo {m:Nat}{p x:Arg}(h:runK E rec q st env (.store m p x)=some (v,st')):∃ y qr o,cu E st env p=some y/\y.target=some qr/\st'.H=st.H.set (qr.abs st.base.length) o:=by
 have hs:∀ {x y:FV} {a b:St},some (x,a)=some (y,b)->x=y/\a=b:=fun h=>by cases h;exact⟨rfl,rfl⟩
 simp only[runK]at h;split at h
 ·rename_i e1 e2;split at h
  ·split at h
   ·rw[<-(hs h).2];exact⟨_,_,_,e1,rfl,St.dm _ _ _⟩
   ·cases h
  ·cases h
 ·rename_i e1 e2;split at h
  ·split at h
   ·split at h
    ·split at h
     ·rw[<-(hs h).2];exact⟨_,_,_,e1,rfl,St.dm _ _ _⟩
     ·cases h
    ·split at h
     ·rw[<-(hs h).2];exact⟨_,_,_,e1,rfl,St.dm _ _ _⟩
     ·cases h
    ·cases h
   ·cases h
  ·cases h
 ·cases h
theorem Jk {p b:Arg}{yy:FV}{pp:Ref}(hb:cu E st env b=some yy)(hy:yy.target=some pp):∀ {ps:List Arg},jJ E st env p ps=true->b ∈ ps ->
  ∀ {m:Nat} {x:Arg},runK E rec q st env (.store m p x)=some (v,st')->∃ (qr:Ref) (o:ai),st'.H=st.H.set (qr.abs st.base.length) o/\qr.abs st.base.length≠pp.abs st.base.length
 | [],_,hm,_,_,_=>by cases hm
 | a::r,h,hm,m,x,hk=>by
  simp only[jJ,Qa2]at h;rcases Qg1.1 hm with rfl|hm
  ·obtain⟨y,qr,o,h1,h2,h3⟩:=Vo hk;have h4:=h.1;simp only[h1,hb,h2,hy]at h4;exact⟨qr,o,h3,by simpa using h4⟩
  ·exact Jk hb hy h.2 hm hk
theorem Vp {sz bytes:Nat}{s x:Arg}{pp:Ref}{yy:FV}{p:Arg}(hp:cu E st env p=some yy)(hy:yy.target=some pp):∀ {ps:List Arg},jr E st env p ps=true->s ∈ ps->∀ {st1 st2:St} {acP:List FV} {v1:FV},
  cu E st1 acP s=cu E st env s->st1.base.length=st.base.length->runK E rec q st1 acP (.app sz bytes s x)=some (v1,st2) ->
  (∃ new,st2.H=st1.H++new)\/∃ (qr:Ref) (o:ai),st2.H=st1.H.set (qr.abs st.base.length) o/\qr.abs st.base.length≠pp.abs st.base.length
 | [],_,hm,_,_,_,_,_,_,_=>by cases hm
 | b::r,h,hm,st1,st2,acP,v1,he,hb,hk=>by
  simp only[jr,Qa2]at h;rcases Qg1.1 hm with rfl|hm
  ·have hs:∀ {x y:FV} {a b:St},some (x,a)=some (y,b)->a=b:=fun h=>by cases h;rfl
   simp only[runK,he]at hk;have h4:=h.1;rw[hp]at h4;cases hv:cu E st env s with
   | none=>rw[hv]at h4;simp at h4
   | some vs =>
    rw[hv]at h4 hk;cases vs with
    | d y =>
     (repeat' split at hk)<;>first
      | (cases hk;done)
      | (rw[<-hs hk];exact .inl ⟨[],(Qx1 _).symm⟩)
      | (rw[<-hs hk];exact .inl ⟨_,by simp only[St.H,St.push,Qk2];rfl⟩)
      | (simp_all;done)
    | ls qr az dY off n =>
     simp only[hy]at h4
     (repeat' split at hk)<;>first
      | (cases hk;done)
      | (rw[<-hs hk];exact .inr ⟨_,_,by rw[<-hb];exact St.dm _ _ _,by simp_all⟩)
      | (simp_all;done)
    | _=>simp at h4
  ·exact Vp hp hy h.2 hm he hb hk
theorem LG (hm:k.loud q=false)(h:runK E rec q st env k=some (v,st')):st'.base=st.base/\∃ new,st'.loc=st.loc++new:=by
 have hs:∀ {x y:FV} {a b:St},some (x,a)=some (y,b)->a=b:=fun h=>by cases h;rfl
 have hcall:∀ {g:Nat} {xs:List FV},q=true->fC rec q st g xs=some (v,st')->st'.base=st.base/\∃ new,st'.loc=st.loc++new:=by
  intro g xs hq h;subst hq;unfold fC at h;split at h
  ·cases h
  ·split at h
   ·unfold dR at h;split at h
    ·split at h
     ·cases hs h;exact⟨rfl,[],aC⟩
     ·cases h
    ·split at h
     ·cases hs h;exact⟨rfl,_,rfl⟩
     ·simp at h
    ·cases h
   ·unfold cO at h;split at h
    ·split at h
     ·cases hs h;exact⟨rfl,[],aC⟩
     ·cases h
    ·cases h
    ·cases h
 cases k
 case call g args =>
  simp only[runK]at h;split at h
  ·exact hcall (by simpa[K.loud] using hm) h
  ·cases h
 case mr f args =>
  simp only[runK]at h;split at h
  ·exact hcall (by simpa[K.loud] using hm) h
  ·exact hcall (by simpa[K.loud] using hm) h
  ·cases h
 case qo g args =>
  simp only[runK]at h;split at h
  ·have hq:q=true:=by simpa[K.loud] using hm
   subst hq;unfold cO at h;split at h
   ·split at h
    ·cases hs h;exact⟨rfl,[],aC⟩
    ·cases h
   ·cases h
   ·cases h
  ·cases h
 case store=>simp[K.loud]at hm
 case Lh=>simp[K.loud]at hm
 case ll=>simp[K.loud]at hm
 case iI=>simp[K.loud]at hm
 case clr=>simp[K.loud]at hm
 case kK agg n p ps =>
  replace h:=(j5 h).2.1;simp only[runK]at h
  (repeat' split at h)<;>first
   | (cases h;done)
   | (cases hs h;exact⟨rfl,[],(Qx1 _).symm⟩)
 case jc agg n p =>
  replace h:=(mE h).1;simp only[runK]at h
  (repeat' split at h)<;>first
   | (cases h;done)
   | (cases hs h;exact⟨rfl,[],(Qx1 _).symm⟩)
 case app sz bytes x y =>
  cases x with
  | c d =>
   cases d with
   | n dY =>
    simp only[runK,cu]at h
    (repeat' split at h)<;>first
     | (cases h;done)
     | (cases hs h;exact⟨rfl,_,rfl⟩)
     | (cases hs h;exact⟨rfl,[],(Qx1 _).symm⟩)
     | (simp_all;done)
   | _=>simp[K.loud]at hm
  | _=>simp[K.loud]at hm
 all_goals
  simp only[runK]at h
  (repeat' split at h)<;>first
   | (cases h;done)
   | (cases hs h;exact⟨rfl,_,rfl⟩)
   | (cases hs h;exact⟨rfl,[],(Qx1 _).symm⟩)
end run
end
section
section trace
variable {E:Env} {rec:Nat->List FV->List ai->bF}
structure Trace (E:Env)(rec:Nat->List FV->List ai->bF)(ks:List iU)(env:List FV)(f:Nat->St)(vs:List FV):Prop where
 len:vs.length=ks.length
 step:∀ i o,ks[i]?=some o->∃ v,vs[i]?=some v /\
  ((kS (env++vs.take i) o.guard=some false/\v=.d (.t [])/\f (i+1)=f i) \/
  (kS (env++vs.take i) o.guard=some true/\runK E rec o.q (f i) (env++vs.take i) o.k=some (v,f (i+1))))
theorem wP:∀ (ks:List iU) {st st':St} {env ev:List FV},dJ E rec ks st env=some (st',ev)->∃ f vs,ev=env++vs/\f 0=st/\f ks.length=st'/\Trace E rec ks env f vs
 | [],st,st',env,ev,h=>by
  simp only[dJ,Qd2,Qo2]at h;exact⟨fun _=>st,[],by simp[h.2],rfl,h.1,⟨rfl,fun i o hi=>by simp at hi⟩⟩
 | o::ks,st,st',env,ev,h=>by
  simp only[dJ]at h;have key:∀ (v:FV) (st1:St),dJ E rec ks st1 (env++[v])=some (st',ev) ->
    ((kS env o.guard=some false/\v=.d (.t [])/\st1=st)\/(kS env o.guard=some true/\runK E rec o.q st env o.k=some (v,st1))) ->
    ∃ f vs,ev=env++vs/\f 0=st/\f (o::ks).length=st'/\Trace E rec (o::ks) env f vs:=by
   intro v st1 hr h1;obtain⟨f,vs,e1,e2,e3,t⟩:=wP ks hr;refine⟨fun i=>match i with|0=>st|i+1=>f i,v::vs,by simp[e1],rfl,by simpa using e3,⟨by simp[t.len],fun i o' hi => ?_⟩⟩;cases i with
   | zero =>
    simp at hi;subst hi;refine⟨v,rfl,?_⟩;simp only[List.take_zero,Qx1,e2];exact h1
   | succ i =>
    obtain⟨v',h2,h3⟩:=t.step i o' (by simpa using hi);refine⟨v',by simpa using h2,?_⟩;simpa using h3
  split at h
  ·cases h
  ·rename_i hg;exact key _ _ h (.inl ⟨hg,rfl,rfl⟩)
  ·rename_i hg;split at h
   ·cases h
   ·rename_i hr;exact key _ _ h (.inr ⟨hg,hr⟩)
end trace
inductive V6 (ops:List Oper):Nat->Nat->Prop
 | edge {i:Nat} {o:Oper} {e:Edge} (hi:ops[i]?=some o) (he:e ∈ o.after) (hb:Region.binds .any e=true):V6 ops i e.on
 | step {i j:Nat} {o:Oper} {e:Edge} (hi:ops[i]?=some o) (he:e ∈ o.after) (hb:Region.binds .any e=true) (h:V6 ops e.on j):V6 ops i j
theorem Jl {ms:List Nat}{o:Oper}{j:Nat}(h:(Li ms o).testBit j=true):∃ e ∈ o.after,Region.binds .any e=true/\(e.on=j\/(ms.getD e.on 0).testBit j=true):=by
 have key:∀ (l:List Edge) (s:Nat),(l.foldl (fun s e=>if Region.binds .any e then s ||| (2 ^ e.on ||| ms.getD e.on 0) else s) s).testBit j=true ->
   s.testBit j=true\/∃ e ∈ l,Region.binds .any e=true/\(e.on=j\/(ms.getD e.on 0).testBit j=true):=by
  intro l
  induction l with
  | nil=>intro s h;exact .inl h
  | cons e l ih =>
   intro s h;rw[Qp0]at h;rcases ih _ h with h1|⟨e',h1,h2⟩
   ·by_cases hb:Region.binds .any e=true
    ·rw[if_pos hb,Nat.testBit_or,Nat.testBit_or,Xg1,Xg1]at h1;rcases h1 with h1|h1|h1
     ·exact .inl h1
     ·rw[Nat.testBit_two_pow]at h1;exact .inr ⟨e,aC,hb,.inl (by simpa using h1)⟩
     ·exact .inr ⟨e,aC,hb,.inr h1⟩
    ·rw[if_neg hb]at h1;exact .inl h1
   ·exact .inr ⟨e',by simp[h1],h2⟩
 rcases key _ _ h with h|⟨e,h1,h2⟩
 ·simp at h
 ·exact⟨e,by simpa using h1,h2⟩
theorem uR {ops:List Oper}:∀ (l:List Oper) (ms:List Nat),(∀ j,l[j]?=ops[ms.length+j]?)->(∀ i j,(ms.getD i 0).testBit j=true->V6 ops i j)->∀ i j,((masks l ms).getD i 0).testBit j=true->V6 ops i j
 | [],ms,_,h=>h
 | o::l,ms,hat,h=>by
  have h0:ops[ms.length]?=some o:=by simpa using(hat 0).symm
  refine uR l (ms++[Li ms o]) (fun j => ?_) (fun i j hb => ?_)
  ·have:=hat (j+1);simp only[Qb0,Q12];rw[show ms.length+1+j=ms.length+(j+1) by omega,<-this];simp
  ·rw[Qs0]at hb;rcases Nat.lt_trichotomy i ms.length with hl|hl|hl
   ·rw[Qa0 hl,<-Qs0]at hb;exact h i j hb
   ·subst hl;rw[Qb1 (Qd1 _)]at hb;simp only[Q11,Qv1,Q31]at hb;obtain⟨e,he,hbd,h1⟩:=Jl hb;rcases h1 with h1|h1
    ·subst h1;exact .edge h0 he hbd
    ·exact .step h0 he hbd (h _ _ h1)
   ·rw[Qq2 (by simp;omega)]at hb;simp at hb
def Qv (ops:List Oper)(i j:Nat):Prop:=(i<j->V6 ops j i)/\(j<i->V6 ops i j)
theorem qB {ops:List Oper}{i j:Nat}(h:comparable (masks ops []) i j=true):Qv ops i j:=by
 have hm:=uR (ops:=ops) ops [] aC (fun i j h=>by simp at h);unfold comparable at h;split at h
 ·exact⟨fun _=>hm _ _ h,fun h'=>by omega⟩
 ·exact⟨fun h'=>by omega,fun _=>hm _ _ h⟩
def Pass (x y:iU)(i j:Nat):Prop:=∃ ps g m a,((∃ f as,x.k=.ll f as ps)\/∃ n p v,x.k=.iI n p v ps)/\y.k=.jc g m a/\j<i/\∃ b ∈ ps,sQ a b=true
def Ahead (x y:iU)(i j:Nat):Prop:=∃ sz bytes s v g m a ps,x.k=.app sz bytes s v/\y.k=.kK g m a ps/\i<j/\s ∈ ps
structure Ord (ops:List Oper)(ks:List iU)(apart:List (Nat × Nat)):Prop where
 edge:∀ (i:Nat) (o:Oper) e,ops[i]?=some o->e ∈ o.after->Region.binds .any e=true->e.on<i
 dst:∀ (i j:Nat) (o o':Oper) t,ops[i]?=some o->ops[j]?=some o'->i≠j->o.dst=some t->o'.dst≠some t/\(t ∈ tmpsOf o'->Qv ops i j)
 grd:∀ (i:Nat) (o:Oper) g b,ops[i]?=some o->o.guard=some (g,b)->V6 ops i g
 mem:∀ (i j:Nat) (x y:iU),ks[i]?=some x->ks[j]?=some y->i≠j->x.k.loud x.q=true->y.k.mem=true->Qv ops i j\/(y.q=true/\∃ p,Jd x.k y.k=some p/\p ∈ apart)\/Pass x y i j\/Ahead x y i j
theorem Cr {a b:Arg}(h:sQ a b=true):a=b:=by
 unfold sQ at h;split at h
 ·rw[beq_iff_eq.1 h]
 ·rw[beq_iff_eq.1 h]
 ·cases h
theorem F_ {ops:List Oper}{ks:List iU}{apart:List (Nat × Nat)}(h:F5 ops (masks ops []) ks apart=true):Ord ops ks apart:=by
 simp only[F5,Qa2]at h;obtain⟨⟨⟨h1,h2⟩,h3⟩,h4⟩:=h;have mem:∀ {α:Type} (l:List α) (i:Nat) (x:α),l[i]?=some x->(x,i) ∈ l.zipIdx:=fun l i x hx=>by
  rw[Xp1];exact hx
 refine⟨?_,?_,?_,?_⟩
 ·intro i o e hi he hb;have:=Qf0.1 h1 _ (mem _ _ _ hi);have:=Qf0.1 this e (by simpa using he);simpa[hb] using this
 ·intro i j o o' t hi hj hne hd;have:=Qf0.1 h2 _ (mem _ _ _ hi);simp only[hd]at this;have:=Qf0.1 this _ (mem _ _ _ hj);simp only[Xg1,Qa2,beq_iff_eq]at this;rcases this with h|⟨h5,h6⟩
  ·exact absurd h hne
  ·refine⟨by simpa using h5,fun ht => ?_⟩;rcases h6 with h6|h6
   ·simp[ht]at h6
   ·exact qB h6
 ·intro i o g b hi hg;have:=Qf0.1 h3 _ (mem _ _ _ hi);simp only[hg]at this;exact uR (ops:=ops) ops [] aC (fun i j h=>by simp at h) _ _ this
 ·intro i j x y hi hj hne hl hm;have:=Qf0.1 h4 _ (mem _ _ _ hi);simp only[hl,Xh2,Xe0]at this;have:=Qf0.1 this _ (mem _ _ _ hj);simp only[hm,Xh2,Xg1,beq_iff_eq,Qh1,or_false]at this;rcases this with ((h|h)|h)|h
  ·exact absurd h hne
  ·exact .inl (qB h)
  ·right;left
   rw[Qa2]at h;refine⟨h.1,?_⟩;have h:=h.2;split at h
   ·exact⟨_,by assumption,by simpa using h⟩
   ·cases h
  ·right;right
   unfold passes at h;split at h
   ·rename_i f as ps g m a e1 e2;rw[Qa2]at h;obtain⟨b,hb,hs⟩:=Xb1.1 h.2;exact .inl ⟨ps,g,m,a,.inl ⟨f,as,e1⟩,e2,by simpa using h.1,b,hb,hs⟩
   ·rename_i n p v ps g m a e1 e2;rw[Qa2]at h;obtain⟨b,hb,hs⟩:=Xb1.1 h.2;exact .inl ⟨ps,g,m,a,.inr ⟨n,p,v,e1⟩,e2,by simpa using h.1,b,hb,hs⟩
   ·rename_i sz bytes s v g m a ps e1 e2;rw[Qa2]at h;obtain⟨b,hb,hs⟩:=Xb1.1 h.2;exact .inr ⟨sz,bytes,s,v,g,m,a,ps,e1,e2,by simpa using h.1,by rw[Cr hs];exact hb⟩
   ·cases h
theorem P8 {P:Program}{ops:Array Oper}{Q:Exit->Act->World->Prop}(Inv:Array Bool->Act->World->Prop)
  (afQ:∀ (i:Nat) (o:Oper) e,ops[i]?=some o->e ∈ o.after->Region.binds .any e=true->e.on<i)
  (hstep:∀ listed a w i,listed.size=ops.size->(∀ (j:Nat) (o:Oper) e,ops[j]?=some o->listed.getD j false=true->e ∈ o.after->Region.binds .any e=true->listed.getD e.on false=true)->Inv listed a w ->
   i ∈ Region.ready .any ops listed->∀ K:Act->World->Prop,(∀ a' w',Inv (listed.setIfInBounds i true) a' w'->K a' w')->wpOp P ops Q i K a w)
  (hdone:∀ listed a w,Inv listed a w->(∀ i,i<ops.size->listed.getD i false=true)->Q .normal a w) :
  ∀ (fuel:Nat) (listed:Array Bool) (a:Act) (w:World),listed.size=ops.size ->
   (∀ (j:Nat) (o:Oper) e,ops[j]?=some o->listed.getD j false=true->e ∈ o.after->Region.binds .any e=true->listed.getD e.on false=true) ->
   listed.toList.count false<=fuel->Inv listed a w->wpAny P .any ops Q fuel listed a w:=by
 have Vq:∀ listed:Array Bool,listed.size=ops.size->Region.ready .any ops listed=[]->∀ i,i<ops.size->listed.getD i false=true:=by
  intro listed hs hr i
  induction i using Nat.strongRecOn with
  | ind i ih =>
   intro hi;cases hc:listed.getD i false with
   | true=>rfl
   | false =>
    have hm:i ∈ Region.ready .any ops listed:=by
     rw[mem_ready];refine⟨?_,_,Qh0 hi,fun e he hb => ?_⟩
     ·simp only[Qr2]at hc ⊢;rw[Qh0 ae]at hc ⊢;simpa using hc
     ·have:=afQ i _ e (Qh0 hi) he hb;exact ih _ this ae
    rw[hr]at hm;cases hm
 intro fuel
 induction fuel with
 | zero =>
  intro listed a w hs hcl hct hI;have hr:Region.ready .any ops listed=[]:=by
   rw[List.eq_nil_iff_forall_not_mem];intro i hi;have h1:=(mem_ready.1 hi).1;have:false ∈ listed.toList:=by
    rcases Qg2 i listed.size with hl|hl
    ·simp[hl]at h1;have h2:listed.toList[i]?=some false:=by rw[Qt2,Qh0 hl,h1]
     exact Qb2 h2
    ·simp[Xy0 hl]at h1
   have:=List.count_pos_iff.2 this;omega
  exact⟨hr,hdone listed a w hI (Vq listed hs hr)⟩
 | succ fuel ih =>
  intro listed a w hs hcl hct hI;refine⟨fun hr=>hdone listed a w hI (Vq listed hs hr),fun i hi => ?_⟩;refine hstep listed a w i hs hcl hI hi _ (fun a' w' hI'=>ih _ a' w' (by simp[hs]) ?_ ?_ hI')
  ·intro j o e hj hl he hb;obtain⟨_,oi,hoi,hall⟩:=mem_ready.1 hi
   by_cases hij:i=j
   ·subst hij;rw[hoi]at hj;cases hj;exact getD_set_true (hall e he hb)
   ·rw[getD_set_ne _ hij]at hl;exact getD_set_true (hcl j o e hj hl he hb)
  ·have h1:=(mem_ready.1 hi).1;have hil:i<listed.size:=by
    rcases Qg2 i listed.size with hl|hl
    ·exact hl
    ·simp[Xy0 hl]at h1
   have h2:listed[i]=false:=by simpa[hil] using h1
   rw[Array.toList_setIfInBounds,List.count_set (by simpa using hil)];simp only[Array.getElem_toList,h2];have:0<listed.toList.count false:=by
    rw[List.count_pos_iff];have h3:listed.toList[i]?=some false:=by rw[Qt2,Qh0 hil,h2]
    exact Qb2 h3
   have h5:(true==false)=false:=rfl;simp only[beq_self_eq_true,if_true,h5,Qh1,if_false];omega
end
section
section pG
variable {σ:Nat->Option FuncId} {β:Map} {I Wr:Nat->Prop} {wd:Nat->Prop} {w:World} {n:Nat} {H T:List ai}
theorem bJ {H T:List ai}{k:Nat}{o:ai}(h:H[k]?=some o):(H++T)[k]?=some o:=by
 rw[Qa0 (aS h)];exact h
theorem ym {β:Map}{k:Nat}{o:ai}{x:Nat × Nat × Nat}(h:o.live β k=some x):∃ v,β k v=some x:=by
 cases o with
 | box cs=>exact⟨0,h⟩
 | row az sz es=>exact⟨az,h⟩
 | fU az sz es=>cases h
 | map es=>exact⟨0,h⟩
theorem aZ.pre (h:aZ σ n β I Wr wd (H++T) w)(hn:∀ k v,H.length<=k->β k v=none):aZ σ n β I Wr wd H w:=by
 refine⟨h.kR,h.blt,h.jE,fun k v x hx => ?_,fun k az sz es v x h1 h2=>h.lJ k az sz es v x (bJ h1) h2,fun k o b bo cap h1 h2=>h.wr k o b bo cap (bJ h1) h2,
  fun k cs b bo cap h1 h2=>h.box k cs b bo cap (bJ h1) h2,fun k az sz es b bo cap h1 h2=>h.row k az sz es b bo cap (bJ h1) h2,
  fun k az sz es b bo cap h1 h2=>h.fU k az sz es b bo cap (bJ h1) h2,fun k k' o o' b bo cap uK cap' h1 h2 h3 h4=>h.inj k k' o o' b bo cap uK cap' (bJ h1) (bJ h2) h3 h4,
  fun k es b bo cap h1 h2=>h.map k es b bo cap (bJ h1) h2⟩
 rcases Qg2 k H.length with hl|hl
 ·exact hl
 ·rw[hn k v hl]at hx;cases hx
theorem aZ.app (h:aZ σ n β I Wr wd H w)(T:List ai):aZ σ n β I Wr wd (H++T) w:=by
 have hget:∀ (k:Nat) (o:ai) v x,(H++T)[k]?=some o->β k v=some x->H[k]?=some o:=fun k o v x h1 h2=>by
  rw[Qa0 (h.dom _ _ _ h2)]at h1;exact h1
 refine⟨h.kR,h.blt,h.jE,fun k v x hx=>by rw[Qb0];exact Ql1 (h.dom _ _ _ hx) (Nat.le_add_right _ _),fun k az sz es v x h1 h2=>h.lJ k az sz es v x (hget _ _ _ _ h1 h2) h2,
  fun k o b bo cap h1 h2 => ?_,fun k cs b bo cap h1 h2=>h.box k cs b bo cap (hget _ _ _ _ h1 h2) h2,fun k az sz es b bo cap h1 h2=>h.row k az sz es b bo cap (hget _ _ _ _ h1 h2) h2,
  fun k az sz es b bo cap h1 h2=>h.fU k az sz es b bo cap (hget _ _ _ _ h1 h2) h2,fun k k' o o' b bo cap uK cap' h1 h2 h3 h4 => ?_,fun k es b bo cap h1 h2=>h.map k es b bo cap (hget _ _ _ _ h1 h2) h2⟩
 ·obtain⟨v,hv⟩:=ym h2;exact h.wr k o b bo cap (hget _ _ _ _ h1 hv) h2
 ·obtain⟨v,hv⟩:=ym h3;obtain⟨v',hv'⟩:=ym h4;exact h.inj k k' o o' b bo cap uK cap' (hget _ _ _ _ h1 hv) (hget _ _ _ _ h2 hv') h3 h4
def Map.upto (β:Map)(m:Nat):Map:=fun k v=>if k<m then β k v else none
theorem Map.p_ {β:Map}{m k v:Nat}(h:k<m):β.upto m k v=β k v:=by simp[Map.upto,h]
theorem Map.bY {β:Map}{m k v:Nat}{x:Nat × Nat × Nat}(h:β.upto m k v=some x):k<m/\β k v=some x:=by
 unfold Map.upto at h;split at h
 ·exact⟨by assumption,h⟩
 ·cases h
theorem aZ.first {A:List ai}(h:aZ σ n β I Wr wd (A++T) w)(PU:∀ (k:Nat) cs b bo cap,A[k]?=some (.box cs)->β k 0=some (b,bo,cap)->∀ (j:Nat) (f:FV) (x:Value),cs[j]?=some f->aI σ β I w n f x->aI σ (β.upto A.length) I w n f x) :
  aZ σ n (β.upto A.length) I (fun b=>w.heap.size<=b) (fun k=>A.length<=k) A w:=by
 have hget:∀ (k:Nat) (o:ai),A[k]?=some o->(A++T)[k]?=some o/\k<A.length:=fun k o h1=>⟨bJ h1,(aS h1)⟩
 have hlive:∀ (k:Nat) (o:ai),k<A.length->o.live (β.upto A.length) k=o.live β k:=fun k o hk=>by cases o<;>simp[ai.live,Map.p_ hk]
 refine⟨h.kR,fun k v b bo cap hb=>h.blt _ _ _ _ _ (Map.bY hb).2,fun b hb=>hb,fun k v x hx=>(Map.bY hx).1,fun k az sz es v x h1 h2=>h.lJ k az sz es v x (hget _ _ h1).1 (Map.bY h2).2,
  fun k o b bo cap h1 h2 => ?_,fun k cs b bo cap h1 h2 => ?_,fun k az sz es b bo cap h1 h2=>h.row k az sz es b bo cap (hget _ _ h1).1 (Map.bY h2).2,
  fun k az sz es b bo cap h1 h2=>h.fU k az sz es b bo cap (hget _ _ h1).1 (Map.bY h2).2,fun k k' o o' b bo cap uK cap' h1 h2 h3 h4 => ?_,fun k es b bo cap h1 h2=>h.map k es b bo cap (hget _ _ h1).1 (Map.bY h2).2⟩
 ·obtain⟨g1,g2⟩:=hget _ _ h1;rw[hlive _ _ g2]at h2;exact⟨fun hk=>by omega,(h.wr k o b bo cap g1 h2).2⟩
 ·obtain⟨g1,g2⟩:=hget _ _ h1;obtain⟨a0,c,e,a1,a2,a3⟩:=h.box k cs b bo cap g1 (Map.bY h2).2;exact⟨a0,c,e,a1,a2,fun j f x e1 e2=>PU k cs b bo cap h1 (Map.bY h2).2 j f x e1 (a3 j f x e1 e2)⟩
 ·obtain⟨g1,g2⟩:=hget _ _ h1;obtain⟨g3,g4⟩:=hget _ _ h2;rw[hlive _ _ g2]at h3;rw[hlive _ _ g4]at h4;exact h.inj k k' o o' b bo cap uK cap' g1 g3 h3 h4
end pG
end
section
inductive uS (n m:Nat):FV->Prop
 | u:uS n m .u
 | d (y:D):uS n m (.d y)
 | r {p:Ref} {off:Nat} (h:p.abs n<m):uS n m (.r p off)
 | e {p:Ref} {az sz i off:Nat} (h:p.abs n<m):uS n m (.e p az sz i off)
 | rc (y:D):uS n m (.rc y)
 | ls {p:Ref} {az sz off len:Nat} (h:p.abs n<m):uS n m (.ls p az sz off len)
 | m {p:Ref} (h:p.abs n<m):uS n m (.m p)
 | z (sz:Nat):uS n m (.z sz)
 | f {g:Nat} {first captured:List FV} (h1:∀ c ∈ first,uS n m c) (h2:∀ c ∈ captured,uS n m c):uS n m (.f g first captured)
 | a {cs:List FV} (h:∀ c ∈ cs,uS n m c):uS n m (.a cs)
 | t {cs:List FV} (h:∀ c ∈ cs,uS n m c):uS n m (.t cs)
theorem uS.mono {n m m':Nat}{v:FV}(h:uS n m v)(hm:m<=m'):uS n m' v:=by
 induction h with
 | u=>exact .u
 | d y=>exact .d y
 | r h=>exact .r (Ql1 h hm)
 | e h=>exact .e (Ql1 h hm)
 | rc y=>exact .rc y
 | ls h=>exact .ls (Ql1 h hm)
 | m h=>exact .m (Ql1 h hm)
 | z sz=>exact .z sz
 | f _ _ ih1 ih2=>exact .f ih1 ih2
 | a _ ih=>exact .a ih
 | t _ ih=>exact .t ih
section bnd
variable {σ:Nat->Option FuncId} {β:Map} {I:Nat->Prop} {w:World} {n m:Nat} {v:FV} {x:Value}
theorem uT {α:Type}{cs:List α}{vs:Array Value}(hl:vs.size=cs.length){c:α}(hc:c ∈ cs):∃ (i:Nat) (y:Value),cs[i]?=some c/\vs[i]?=some y:=by
 obtain⟨i,hi,rfl⟩:=Xj2 hc;exact⟨i,vs[i]'(by omega),Qa1 hi,Qh0 ae⟩
theorem aI.bnd (h:aI σ β I w n v x)(hd:∀ k v x,β k v=some x->k<m):uS n m v:=by
 induction h with
 | u x=>exact .u
 | d h=>exact .d _
 | r h=>exact .r (hd _ _ _ h)
 | e h=>exact .e (hd _ _ _ h)
 | rc hb ho h=>exact .rc _
 | ls h hl ho=>exact .ls (hd _ _ _ h)
 | m h=>exact .m (hd _ _ _ h)
 | z=>exact .z _
 | f h h1 h2 _ _ ih1 ih2 =>
  refine .f (fun c hc => ?_) (fun c hc => ?_)
  ·obtain⟨i,y,e1,e2⟩:=uT h1 hc;exact ih1 i c y e1 e2
  ·obtain⟨i,y,e1,e2⟩:=uT h2 hc;exact ih2 i c y e1 e2
 | a hl _ ih=>exact .a (fun c hc=>by obtain⟨i,y,e1,e2⟩:=uT hl hc;exact ih i c y e1 e2)
 | t hl _ ih=>exact .t (fun c hc=>by obtain⟨i,y,e1,e2⟩:=uT hl hc;exact ih i c y e1 e2)
theorem aI.upto (h:aI σ β I w n v x)(hb:uS n m v):aI σ (β.upto m) I w n v x:=by
 induction h with
 | u x=>exact .u x
 | d h=>exact .d h
 | r h=>cases hb with | r hb=>exact .r ((Map.p_ hb).trans h)
 | e h=>cases hb with | e hb=>exact .e ((Map.p_ hb).trans h)
 | rc h0 ho h=>exact .rc h0 ho h
 | ls h hl ho=>cases hb with | ls hb=>exact .ls ((Map.p_ hb).trans h) hl ho
 | m h=>cases hb with | m hb=>exact .m ((Map.p_ hb).trans h)
 | z=>exact .z
 | f h h1 h2 _ _ ih1 ih2 =>
  cases hb with
  | f b1 b2=>exact .f h h1 h2 (fun i c x e1 e2=>ih1 i c x e1 e2 (b1 c (Qb2 e1))) (fun i c x e1 e2=>ih2 i c x e1 e2 (b2 c (Qb2 e1)))
 | a hl _ ih=>cases hb with | a b=>exact .a hl (fun i c x e1 e2=>ih i c x e1 e2 (b c (Qb2 e1)))
 | t hl _ ih=>cases hb with | t b=>exact .t hl (fun i c x e1 e2=>ih i c x e1 e2 (b c (Qb2 e1)))
end bnd
def ai.blank:ai->ai
 | .box cs=>.box (cs.map fun _=>.u)
 | o=>o
theorem aZ.blank {σ:Nat->Option FuncId}{β:Map}{I Wr:Nat->Prop}{wd:Nat->Prop}{w:World}{n m:Nat}{G:List ai}(h:aZ σ n β I Wr wd G w) :
  aZ σ n (β.upto m) I (fun b=>w.heap.size<=b) (fun _=>False) ((G.take m).map ai.blank) w:=by
 have hget:∀ (k:Nat) (o:ai),((G.take m).map ai.blank)[k]?=some o->k<m/\∃ o',G[k]?=some o'/\o'.blank=o:=by
  intro k o hk;simp only[Qc1,Qg0,Qp1]at hk;obtain⟨o',h1,h2⟩:=hk;split at h1
  ·exact⟨by assumption,o',h1,h2⟩
  ·cases h1
 have hrow:∀ (o:ai) az sz es,o.blank=.row az sz es->o=.row az sz es:=by intro o;cases o<;>simp[ai.blank]
 have ahI:∀ (o:ai) az sz es,o.blank=.fU az sz es->o=.fU az sz es:=by intro o;cases o<;>simp[ai.blank]
 have hmap:∀ (o:ai) es,o.blank=.map es->o=.map es:=by intro o;cases o<;>simp[ai.blank]
 have hlive:∀ (o:ai) k x,o.blank.live (β.upto m) k=some x->o.live β k=some x:=by
  intro o k x hx;cases o with
  | box cs=>exact(Map.bY hx).2
  | row az sz es=>exact(Map.bY hx).2
  | fU az sz es=>cases hx
  | map es=>exact(Map.bY hx).2
 refine⟨h.kR,fun k v b bo cap hb=>h.blt _ _ _ _ _ (Map.bY hb).2,fun b hb=>hb,fun k v x hx => ?_,fun k az sz es v x h1 h2 => ?_,fun k o b bo cap h1 h2=>⟨fun hf=>hf.elim,?_⟩,fun k cs b bo cap h1 h2 => ?_,
  fun k az sz es b bo cap h1 h2 => ?_,fun k az sz es b bo cap h1 h2 => ?_,fun k k' o1 o2 b bo cap uK cap' h1 h2 h3 h4 => ?_,fun k es b bo cap h1 h2 => ?_⟩
 ·obtain⟨h1,h2⟩:=Map.bY hx;have:=h.dom _ _ _ h2;simp;omega
 ·obtain⟨_,o',h3,h4⟩:=hget k _ h1;have:=hrow _ _ _ _ h4;subst this;exact h.lJ _ _ _ _ _ _ h3 (Map.bY h2).2
 ·obtain⟨_,o',h3,rfl⟩:=hget k _ h1;exact(h.wr k o' b bo cap h3 (hlive _ _ _ h2)).2
 ·obtain⟨_,o',h3,h4⟩:=hget k _ h1;cases o' with
  | box cs' =>
   simp only[ai.blank,ai.box.injEq]at h4;subst h4;obtain⟨a0,c,e,a1,a2,a3⟩:=h.box k cs' b bo cap h3 (Map.bY h2).2;refine⟨a0,c,e,a1,by simpa using a2,fun j f x e1 e2 => ?_⟩;simp only[Qc1,Qg0]at e1;obtain⟨_,_,rfl⟩:=e1;exact .u x
  | row az sz es=>simp[ai.blank]at h4
  | fU az sz es=>simp[ai.blank]at h4
  | map es=>simp[ai.blank]at h4
 ·obtain⟨_,o',h3,h4⟩:=hget k _ h1;have:=hrow _ _ _ _ h4;subst this;exact h.row _ _ _ _ _ _ _ h3 (Map.bY h2).2
 ·obtain⟨_,o',h3,h4⟩:=hget k _ h1;have:=ahI _ _ _ _ h4;subst this;exact h.fU _ _ _ _ _ _ _ h3 (Map.bY h2).2
 ·obtain⟨_,OY,h5,rfl⟩:=hget k _ h1;obtain⟨_,OZ,h6,rfl⟩:=hget k' _ h2;exact h.inj k k' OY OZ b bo cap uK cap' h5 h6 (hlive _ _ _ h3) (hlive _ _ _ h4)
 ·obtain⟨_,o',h3,h4⟩:=hget k _ h1;have:=hmap _ _ h4;subst this;exact h.map _ _ _ _ _ h3 (Map.bY h2).2
end
section
variable {mn:Prop}
section merge
variable {σ:Nat->Option FuncId} {β β' β1 β2:Map} {I I' Wr:Nat->Prop} {wd:Nat->Prop} {w w':World} {n:Nat}
def Map.over (β β':Map)(m:Nat):Map:=fun k v=>if k<m then β' k v else β k v
theorem Map.iV {m k v:Nat}(h:k<m):Map.over β β' m k v=β' k v:=by simp[Map.over,h]
theorem Map.lT {m k v:Nat}(h:m<=k):Map.over β β' m k v=β k v:=by simp[Map.over,Nat.not_lt.2 h]
theorem aZ.after {G:List ai}(h:aZ σ n β I Wr wd G w)(hx:Ext mn β1 β2 I I' (fun b=>w.heap.size<=b) w w')(hi:∀ b,I' b->b<w'.heap.size):aZ σ n β I' Wr wd G w' :=
 (h.grow hx.size (fun b hb=>hx.keepW b hb ae)).acN hx.im hi (fun k o b bo cap h1 h2 hb=>(hx.gD b hb).elim (h.wr k o b bo cap h1 h2).2 (fun hsz=>by have:=jy h h2;omega))
theorem Ext.after (hx:Ext mn β1 β2 I I' (fun b=>w.heap.size<=b) w w')(hw:∀ b,w.heap.size<=b->Wr b)(β:Map):Ext mn β β I I' Wr w w' :=
 ⟨fun _ _ _ h=>h,hx.im,fun b hb=>(hx.gD b hb).imp id (hw b),hx.size,hx.eB,fun b hb _=>hx.keepW b hb ae,hx.os,hx.tape,hx.output,hx.drawn⟩
theorem aZ.acQ {A B C:List ai}(h:aZ σ n β I Wr wd (A++B++C) w)(acR:∀ k v,A.length<=k->k<A.length+B.length->β k v=none)
  (hx:Ext mn (β.upto A.length) β' I I' (fun b=>w.heap.size<=b) w w') (hS:aZ σ n β' I' (fun b=>w.heap.size<=b) (fun k=>A.length<=k) (A++B) w') (hk:∀ k u,k<A.length->β' k u=β k u) :
  Ext mn β (Map.over β β' (A.length+B.length)) I I' Wr w w'/\aZ σ n (Map.over β β' (A.length+B.length)) I' Wr wd (A++B++C) w':=by
 have hlen:(A++B).length=A.length+B.length:=Qb0;have JB:∀ k v x,β k v=some x->Map.over β β' (A.length+B.length) k v=some x:=by
  intro k v x hb;rcases Qg2 k (A.length+B.length) with hl|hl
  ·rw[Map.iV hl];rcases Qg2 k A.length with hl'|hl'
   ·rw[hk k v hl'];exact hb
   ·rw[acR k v hl' hl]at hb;cases hb
  ·rw[Map.lT hl];exact hb
 have ahJ:∀ k v x,β' k v=some x->Map.over β β' (A.length+B.length) k v=some x:=by
  intro k v x hb;have:=hS.dom k v x hb;rw[hlen]at this;rw[Map.iV this];exact hb
 have hkeep:∀ b,b<w.heap.size->w'.heap[b]?=w.heap[b]?:=fun b hb=>hx.keepW b hb ae
 have Ll:Ext mn β (Map.over β β' (A.length+B.length)) I I' Wr w w' :=
  ⟨JB,hx.im,fun b hb=>(hx.gD b hb).imp id (h.jE b),hx.size,hx.eB,fun b hb _=>hkeep b hb,hx.os,hx.tape,hx.output,hx.drawn⟩
 refine⟨Ll,?_⟩;have hget:∀ (k:Nat) (o:ai),(A++B++C)[k]?=some o->k<A.length+B.length->(A++B)[k]?=some o:=fun k o h1 h2=>by
  rw[Qa0 (by rw[hlen];exact h2)]at h1;exact h1
 have hlive:∀ (k:Nat) (o:ai),k<A.length+B.length->o.live (Map.over β β' (A.length+B.length)) k=o.live β' k:=fun k o hk=>by cases o<;>simp[ai.live,Map.iV hk]
 have mH:∀ (k:Nat) (o:ai),A.length+B.length<=k->o.live (Map.over β β' (A.length+B.length)) k=o.live β k:=fun k o hk=>by cases o<;>simp[ai.live,Map.lT hk]
 have Vr:∀ (k:Nat) (o:ai),k<A.length->o.live β' k=o.live β k:=fun k o hk'=>by cases o<;>simp[ai.live,hk _ _ hk']
 refine⟨hS.kR,?_,fun b hb=>h.jE b (Qe2 hx.size hb),?_,?_,?_,?_,?_,?_,?_,?_⟩
 ·intro k v b bo cap hb;unfold Map.over at hb;split at hb
  ·exact hS.blt _ _ _ _ _ hb
  ·exact Ql1 (h.blt _ _ _ _ _ hb) hx.size
 ·intro k v x hb;unfold Map.over at hb;split at hb
  ·rename_i hl;rw[Qb0,hlen];omega
  ·exact h.dom _ _ _ hb
 ·intro k az sz es v x h1 h2;rcases Qg2 k (A.length+B.length) with hl|hl
  ·rw[Map.iV hl]at h2;exact hS.lJ _ _ _ _ _ _ (hget _ _ h1 hl) h2
  ·rw[Map.lT hl]at h2;exact h.lJ _ _ _ _ _ _ h1 h2
 ·intro k o b bo cap h1 h2;rcases Qg2 k (A.length+B.length) with hl|hl
  ·rw[hlive _ _ hl]at h2;obtain⟨a1,a2⟩:=hS.wr k o b bo cap (hget _ _ h1 hl) h2;refine⟨fun hw => ?_,a2⟩;rcases Qg2 k A.length with hl'|hl'
   ·rw[Vr _ _ hl']at h2;exact(h.wr k o b bo cap h1 h2).1 hw
   ·exact h.jE b (a1 hl')
  ·rw[mH _ _ hl]at h2;obtain⟨a1,a2⟩:=h.wr k o b bo cap h1 h2;refine⟨a1,fun hb => ?_⟩;rcases hx.gD b hb with hb|hb
   ·exact a2 hb
   ·have:=jy h h2;omega
 ·intro k cs b bo cap h1 h2;rcases Qg2 k (A.length+B.length) with hl|hl
  ·rw[Map.iV hl]at h2;obtain⟨a0,c,e,a1,a2,a3⟩:=hS.box k cs b bo cap (hget _ _ h1 hl) h2;exact⟨a0,c,e,a1,a2,fun j f x e1 e2=>(a3 j f x e1 e2).mono ahJ (fun _ h=>h) (fun _ _=>rfl)⟩
  ·rw[Map.lT hl]at h2;obtain⟨a0,c,e,a1,a2,a3⟩:=h.box k cs b bo cap h1 h2;exact⟨a0,c,e,by rw[hkeep b (h.blt _ _ _ _ _ h2)];exact a1,a2,fun j f x e1 e2=>Ll.Y5 (a3 j f x e1 e2)⟩
 ·intro k az sz es b bo cap h1 h2;rcases Qg2 k (A.length+B.length) with hl|hl
  ·rw[Map.iV hl]at h2;exact hS.row _ _ _ _ _ _ _ (hget _ _ h1 hl) h2
  ·rw[Map.lT hl]at h2;obtain⟨a0,c,e,a1,a2⟩:=h.row _ _ _ _ _ _ _ h1 h2;have hb:=hkeep b (h.blt _ _ _ _ _ h2);exact⟨a0.mono hx.im hx.eB hb,c,e,by rw[hb];exact a1,a2⟩
 ·intro k az sz es b bo cap h1 h2;rcases Qg2 k (A.length+B.length) with hl|hl
  ·rw[Map.iV hl]at h2;exact hS.fU _ _ _ _ _ _ _ (hget _ _ h1 hl) h2
  ·rw[Map.lT hl]at h2;obtain⟨a0,a1⟩:=h.fU _ _ _ _ _ _ _ h1 h2;exact⟨a0.mono hx.im hx.eB (hx.eB b a1),hx.im b a1⟩
 ·have afR : ∀ (k k' : Nat) (o o' : ai) b bo cap uK cap', k < A.length + B.length -> A.length + B.length <= k' -> (A ++ B ++ C)[k]? = some o -> (A ++ B ++ C)[k']? = some o' ->
       o.live β' k = some (b, bo, cap) -> o'.live β k' = some (b, uK, cap') -> k = k' := by
   intro k k' o o' b bo cap uK cap' hl hl' h1 h2 h3 h4;rcases Qg2 k A.length with hl2|hl2
   ·rw[Vr _ _ hl2]at h3;exact h.inj k k' o o' b bo cap uK cap' h1 h2 h3 h4
   ·have h5:w.heap.size<=b:=(hS.wr k o b bo cap (hget _ _ h1 hl) h3).1 hl2;have:=jy h h4;omega
  intro k k' o o' b bo cap uK cap' h1 h2 h3 h4;rcases Qg2 k (A.length+B.length) with hl|hl<;>rcases Qg2 k' (A.length+B.length) with hl'|hl'
  ·rw[hlive _ _ hl]at h3;rw[hlive _ _ hl']at h4;exact hS.inj k k' o o' b bo cap uK cap' (hget _ _ h1 hl) (hget _ _ h2 hl') h3 h4
  ·rw[hlive _ _ hl]at h3;rw[mH _ _ hl']at h4;exact afR k k' o o' b bo cap uK cap' hl hl' h1 h2 h3 h4
  ·rw[mH _ _ hl]at h3;rw[hlive _ _ hl']at h4;exact(afR k' k o' o b uK cap' bo cap hl' hl h2 h1 h4 h3).symm
  ·rw[mH _ _ hl]at h3;rw[mH _ _ hl']at h4;exact h.inj k k' o o' b bo cap uK cap' h1 h2 h3 h4
 ·intro k es b bo cap h1 h2;rcases Qg2 k (A.length+B.length) with hl|hl
  ·rw[Map.iV hl]at h2;exact hS.map _ _ _ _ _ (hget _ _ h1 hl) h2
  ·rw[Map.lT hl]at h2;obtain⟨ms,clock,a1,a2⟩:=h.map _ _ _ _ _ h1 h2;exact⟨ms,clock,by rw[hkeep b (h.blt _ _ _ _ _ h2)];exact a1,a2.mono hx.im hx.eB⟩
end merge
def tails (H:Nat->List ai):Nat->Nat->List ai
 | 0,_=>[]
 | d+1,i=>(H (i+1)).drop (H i).length++tails H d (i+1)
def full (H:Nat->List ai)(m i:Nat):List ai:=H i++tails H (m-i) i
section full
variable {H:Nat->List ai} {m:Nat}
theorem Jm:full H m m=H m:=by simp[full,tails]
theorem wQ {i:Nat}(hi:i<m):full H m i=H i++(H (i+1)).drop (H i).length++tails H (m-(i+1)) (i+1):=by
 unfold full;rw[show m-i=(m-(i+1))+1 by omega,tails,Qk2]
theorem fT {i:Nat}(hi:i<m){new:List ai}(h:H (i+1)=H i++new):full H m (i+1)=full H m i:=by
 rw[wQ hi,h,List.drop_append_of_le_length (Qd1 _),Qp2,Qn0,full,h]
theorem Cs {i p q:Nat}(hi:i<m){o:ai}(h:H (i+1)=(H i).set q o)(hp:p≠q):(full H m (i+1))[p]?=(full H m i)[p]?:=by
 rw[wQ hi,h,full,h];have:((H i).set q o).drop (H i).length=[]:=Xn0 aC;rw[this,Qx1];rcases Qg2 p (H i).length with hl|hl
 ·rw[Qa0 (by simpa using hl),Qa0 hl,Qc0 (Ne.symm hp)]
 ·rw[Qb1 (by simpa using hl),Qb1 hl];simp
theorem P9 {i k:Nat}(hi:i<m)(hl:(H i).length<=(H (i+1)).length)(h:k<(H i).length->(H (i+1))[k]?=(H i)[k]?):(full H m (i+1))[k]?=(full H m i)[k]?:=by
 rw[wQ hi];unfold full;rcases Qg2 k (H (i+1)).length with h1|h1
 ·rw[Qa0 h1,Qa0 (by rw[Qb0,Q91];omega)];rcases Qg2 k (H i).length with h2|h2
  ·rw[h h2,Qa0 h2]
  ·rw[Qb1 h2,Qx0]
   congr 1
   omega
 ·rw[Qb1 h1,Qb1 (by rw[Qb0,Q91];omega)]
  congr 1
  rw[Qb0,Q91];omega
theorem Jn {i k:Nat}(hk:k<(H i).length):(full H m i)[k]?=(H i)[k]?:=by
 unfold full;rw[Qa0 hk]
theorem rO (hm:∀ i,i<m->(H i).length<=(H (i+1)).length):∀ (d i:Nat),i+d=m->(full H m i).length=(H m).length
 | 0,i,h=>by
  have:i=m:=ae;subst this;rw[Jm]
 | d+1,i,h=>by
  have h1:=rO hm d (i+1) ae;have h2:=hm i ae;rw[wQ ae];rw[full]at h1;simp only[Qb0,Q91]at h1 ⊢;omega
theorem Vs (hm:∀ i,i<m->(H i).length<=(H (i+1)).length){i j:Nat}(hij:i<=j)(hj:j<=m):(H i).length<=(H j).length:=by
 induction j with
 | zero => have : i = 0 :=ae
           subst this;exact Qd1 _
 | succ j ih =>
  rcases Q21 hij with he|hl
  ·subst he;exact Qd1 _
  ·exact Qe2 (ih ae ae) (hm j ae)
theorem EG {r i:Nat}(EZ:r<=i)(hq:∀ j,r<=j->j<i->full H m (j+1)=full H m j):full H m i=full H m r:=by
 induction i with
 | zero => have : r = 0 :=ae
           subst this;rfl
 | succ i ih =>
  rcases Q21 EZ with he|hl
  ·subst he;rfl
  ·rw[hq i ae ae];exact ih ae (fun j h1 h2=>hq j h1 ae)
theorem Ct {r i p:Nat}(EZ:r<=i)(hq:∀ j,r<=j->j<i->(full H m (j+1))[p]?=(full H m j)[p]?):(full H m i)[p]?=(full H m r)[p]?:=by
 induction i with
 | zero => have : r = 0 :=ae
           subst this;rfl
 | succ i ih =>
  rcases Q21 EZ with he|hl
  ·subst he;rfl
  ·rw[hq i ae ae];exact ih ae (fun j h1 h2=>hq j h1 ae)
theorem Zn {k i:Nat}(h1:(H i).length<=k)(d:Nat)(hd:i+d=m)(h2:k<(H m).length):∃ j,i<=j/\j<m/\(H j).length<=k/\k<(H (j+1)).length:=by
 induction d generalizing i with
 | zero => have : i = m :=ae
           subst this;omega
 | succ d ih =>
  rcases Qg2 k (H (i+1)).length with hl|hl
  ·exact⟨i,Qd1 _,ae,h1,hl⟩
  ·obtain⟨j,a1,a2,a3,a4⟩:=ih hl ae;exact⟨j,ae,a2,a3,a4⟩
end full
end
section
variable {mn:Prop}
structure P_ (P:Program)(E:Env)(cx:Cx)(σ:Nat->Option FuncId)(rec:Nat->List FV->List ai->bF)(l:List Oper)(ks:List iU)(ap:List (Nat × Nat))(f:Nat->St)(ev:List FV)(n:Nat)(vars:List FV)(wd:Nat->Prop):Prop where
 gid:∀ f g,cx.gid f=some g->σ g=some f
 bod:Bodies P E σ
 rl:dX rec
 rc:jB P E σ rec
 comp:∀ (i:Nat) (o:Oper),l[i]?=some o->∃ x,ks[i]?=some x/\aX P cx ((l.take i).map (·.dst)) o=some x.k.F4/\x.guard=o.guard/\pM ((l.take i).map (·.dst)) o.guard=true/\wB cx o.dst=true
 Qa:ks.length=l.length
 tr:Trace E rec ks [] f ev
 base:∀ i,i<=l.length->(f i).base.length=n
 Zo:∀ i,i<=l.length->(f i).vars=vars
 ord:Ord l ks ap
 apart:kg (f 0) ap=true
 mw:∀ i,i<=l.length->iN n (f i) wd
 afT:∀ (j:Nat) (t:Tmp) (y:FV),cx.vars[j]?=some t->vars[j]?=some y->uS n (f 0).H.length y
def Gr (l:List Oper)(f:Nat->St)(r:Nat):List ai:=full (fun i=>(f i).H) l.length r
structure Inv (mn:Prop)(cx:Cx)(σ:Nat->Option FuncId)(l:List Oper)(ks:List iU)(f:Nat->St)(ev:List FV)(n:Nat)(vars:List FV)(Wr wd:Nat->Prop)(β0:Map)(I0:Nat->Prop)(w0:World)(ds:List Deferred)
  (r:Nat) (β:Map) (I:Nat->Prop) (listed:Array Bool) (a:Act) (w:World):Prop where
 rle:r<=l.length
 rl:r=0\/∃ x,ks[r-1]?=some x/\x.k.loud x.q=true
 wrote:∀ (j:Nat) (x:iU),ks[j]?=some x->x.k.loud x.q=true->(listed.getD j false=true↔j<r)
 pG:aZ σ n β I Wr wd (Gr l f r) w
 ext:Ext mn β0 β I0 I Wr w0 w
 gap:∀ j,j<l.length->listed.getD j false=false->∀ k v,(f j).H.length<=k->k<(f (j+1)).H.length->β k v=none
 cb:∀ i,r<=i->i<=l.length->∀ (k:Nat) (cs:List FV) (x:Nat × Nat × Nat),k<(f i).H.length->(Gr l f r)[k]?=some (.box cs)->β k 0=some x->∀ c ∈ cs,uS n (f i).H.length c
 vb:∀ (j:Nat) (y:FV),listed.getD j false=true->ev[j]?=some y->uS n (f (j+1)).H.length y
 size:a.tmps.size=cx.ntmps
 loc:∀ (j:Nat) (o:Oper) (t:Tmp) (y:FV),l[j]?=some o->o.dst=some t->listed.getD j false=true->ev[j]?=some y->aI σ β I w n y (a.eval (.tmp t))
 var:∀ (j:Nat) (t:Tmp) (y:FV),cx.vars[j]?=some t->(∀ (i:Nat) (o:Oper),l[i]?=some o->o.dst=some t->listed.getD i false=false)->vars[j]?=some y->aI σ β I w n y (a.eval (.tmp t))
 dfr:a.defers=ds
section next
variable {P:Program} {E:Env} {cx:Cx} {σ:Nat->Option FuncId} {rec:Nat->List FV->List ai->bF} {l:List Oper} {ks:List iU} {ap:List (Nat × Nat)} {f:Nat->St} {ev:List FV} {n:Nat} {vars:List FV} {Wr wd:Nat->Prop}
variable {β0 β β':Map} {I0 I I':Nat->Prop} {w0 w w':World} {ds:List Deferred} {r r':Nat} {listed:Array Bool} {a:Act} {i:Nat} {o:Oper} {v:FV} {x:Value}
theorem set_self {m:Nat}(hs:listed.size=m)(hi:i<m):(listed.setIfInBounds i true).getD i false=true:=by
 simp[Qr2,hs,hi]
theorem Inv.next (h:Inv mn cx σ l ks f ev n vars Wr wd β0 I0 w0 ds r β I listed a w)(hO:Ord l ks ap)(ho:l[i]?=some o)(hs:listed.size=l.length)(hd:wB cx o.dst=true)(hv:ev[i]?=some v)
  (hr:r'<=l.length) (hrl:r'=0\/∃ x,ks[r'-1]?=some x/\x.k.loud x.q=true)
  (hwr:∀ (j:Nat) (x:iU),ks[j]?=some x->x.k.loud x.q=true->((listed.setIfInBounds i true).getD j false=true↔j<r')) (hx:Ext mn β β' I I' Wr w w') (hS:aZ σ n β' I' Wr wd (Gr l f r') w')
  (acR:∀ j,j<l.length->j≠i->listed.getD j false=false->∀ k v,(f j).H.length<=k->k<(f (j+1)).H.length->β' k v=none)
  (hcb:∀ i,r'<=i->i<=l.length->∀ (k:Nat) (cs:List FV) (x:Nat × Nat × Nat),k<(f i).H.length->(Gr l f r')[k]?=some (.box cs)->β' k 0=some x->∀ c ∈ cs,uS n (f i).H.length c)
  (hb:uS n (f (i+1)).H.length v) (hR:aI σ β' I' w' n v x) :
  Inv mn cx σ l ks f ev n vars Wr wd β0 I0 w0 ds r' β' I' (listed.setIfInBounds i true) (a.put o.dst x) w':=by
 have hil:i<l.length:=(aS ho)
 have hself:=set_self (listed:=listed) (i:=i) hs hil;have hne:∀ j,j≠i->(listed.setIfInBounds i true).getD j false=listed.getD j false:=fun j hj=>getD_set_ne false (Ne.symm hj)
 have hdp:∀ u,o.dst=some u->u<a.tmps.size:=by
  intro u hu;rw[h.size];rw[hu]at hd;simpa[wB] using hd
 refine⟨hr,hrl,hwr,hS,h.ext.trans hx,?_,hcb,?_,by rw[BM];exact h.size,?_,?_,by rw[put_defers];exact h.dfr⟩
 ·intro j hj hun
  by_cases hji:j=i
  ·subst hji;rw[hself]at hun;cases hun
  ·rw[hne j hji]at hun;exact acR j hj hji hun
 ·intro j y hl hy
  by_cases hji:j=i
  ·subst hji;rw[hv]at hy;cases hy;exact hb
  ·rw[hne j hji]at hl;exact h.vb j y hl hy
 ·intro j o' t y ho' ht hl hy;rw[eval_put _ _ _ _ hdp]
  by_cases hji:j=i
  ·subst hji;rw[ho]at ho';cases ho';rw[if_pos ht];rw[hv]at hy;cases hy;exact hR
  ·have:o.dst≠some t:=fun e=>(hO.dst i j o o' t ho ho' (Ne.symm hji) e).1 ht
   rw[if_neg this];rw[hne j hji]at hl;exact hx.Y5 (h.loc j o' t y ho' ht hl hy)
 ·intro j t y hj hno hy;have h1:o.dst≠some t:=fun e=>by
   have:=hno i o ho e;rw[hself]at this;cases this
  rw[eval_put _ _ _ _ hdp,if_neg h1];refine hx.Y5 (h.var j t y hj (fun i' o' ho' ht => ?_) hy);have:=hno i' o' ho' ht
  by_cases hji:i'=i
  ·subst hji;rw[hself]at this;cases this
  ·rw[hne i' hji]at this;exact this
theorem Inv.same (h:Inv mn cx σ l ks f ev n vars Wr wd β0 I0 w0 ds r β I listed a w)(hO:Ord l ks ap)(ho:l[i]?=some o)(hs:listed.size=l.length)(hd:wB cx o.dst=true)(hv:ev[i]?=some v)
  (hq:∀ x,ks[i]?=some x->x.k.loud x.q=false) {β1 β2:Map} (hx:Ext mn β1 β2 I I' (fun b=>w.heap.size<=b) w w') (hi:∀ b,I' b->b<w'.heap.size)
  (hb:uS n (f (i+1)).H.length v) (hR:aI σ β I' w' n v x) :
  Inv mn cx σ l ks f ev n vars Wr wd β0 I0 w0 ds r β I' (listed.setIfInBounds i true) (a.put o.dst x) w':=by
 refine h.next hO ho hs hd hv h.rle h.rl (fun j y hj hl => ?_) (hx.after h.pG.jE β) (h.pG.after hx hi) (fun j hj _ hun=>h.gap j hj hun) h.cb hb hR
 have:j≠i:=fun e=>by subst e;rw[hq y hj]at hl;cases hl
 rw[getD_set_ne false (Ne.symm this)];exact h.wrote j y hj hl
end next
section reg
variable {P:Program} {E:Env} {cx:Cx} {σ:Nat->Option FuncId} {rec:Nat->List FV->List ai->bF} {l:List Oper} {ks:List iU} {ap:List (Nat × Nat)} {f:Nat->St} {ev:List FV} {n:Nat} {vars:List FV} {wd:Nat->Prop}
theorem Vt {q:Bool}{k:K}(h:k.loud q=true):k.mem=true:=by cases k<;>simp_all[K.loud,K.mem]
theorem ou {k k':K}{p:Nat × Nat}(h:Jd k k'=some p):∃ m b x g m' a,k=.store m (.var b) x/\k'=.load g m' (.var a)/\p=(a,b):=by
 unfold Jd at h;split at h
 ·cases h;exact⟨_,_,_,_,_,_,rfl,rfl,rfl⟩
 ·cases h
theorem Qv.symm {i j:Nat}(h:Qv l i j):Qv l j i:=⟨h.2,h.1⟩
variable (R:P_ P E cx σ rec l ks ap f ev n vars wd)
include R
theorem P_.mono (i:Nat)(hi:i<l.length):(f i).H.length<=(f (i+1)).H.length:=by
 have hk:i<ks.length:=by rw[R.Qa];exact hi
 obtain⟨v,_,h⟩:=R.tr.step i _ (Qa1 hk);rcases h with ⟨_,_,h⟩|⟨_,h⟩
 ·rw[h];exact Qd1 _
 ·exact Vn R.rl h
theorem P_.le {i j:Nat}(hij:i<=j)(hj:j<=l.length):(f i).H.length<=(f j).H.length:=Vs (H:=fun i=>(f i).H) R.mono hij hj
theorem P_.makes {j:Nat}{y:iU}(hy:ks[j]?=some y)(h:(f j).H.length<(f (j+1)).H.length):y.k.mem=true/\(∀ g m x,y.k≠.load g m x/\y.k≠.jc g m x)/\∀ g m x ps,y.k≠.kK g m x ps:=by
 obtain⟨v,_,h1⟩:=R.tr.step j y hy;rcases h1 with ⟨_,_,h1⟩|⟨_,h1⟩
 ·rw[h1]at h;omega
 ·constructor
  ·cases hm:y.k.mem with
   | true=>rfl
   | false=>rw[(runK_pure hm h1).1]at h;omega
  ·refine⟨fun g m x => ?_,fun g m x ps e=>by rw[e]at h1;rw[(sU (j5 h1).2.1).1]at h;omega⟩;constructor
   ·intro e;rw[e]at h1;rw[(sU h1).1]at h;omega
   ·intro e;rw[e]at h1;rw[(sU (mE h1).1).1]at h;omega
theorem P_.quiet {j:Nat}{y:iU}(hy:ks[j]?=some y)(hq:y.k.loud y.q=false):∃ new,(f (j+1)).H=(f j).H++new:=by
 obtain⟨v,_,h1⟩:=R.tr.step j y hy;rcases h1 with ⟨_,_,h1⟩|⟨_,h1⟩
 ·exact⟨[],by rw[h1];simp⟩
 ·obtain⟨h2,new,h3⟩:=LG hq h1;exact⟨new,by simp[St.H,h2,h3]⟩
theorem P_.rO {r:Nat}(hr:r<=l.length):(Gr l f r).length=(f l.length).H.length :=
 Fi.rO (H:=fun i=>(f i).H) R.mono (l.length-r) r ae
theorem P_.afU {i:Nat}(hi:i<=l.length):n<=(f i).H.length:=by
 have:=R.base i hi;simp only[St.H,Qb0];omega
theorem P_.own {Wr:Nat->Prop}{β0 β:Map}{I0 I:Nat->Prop}{w0 w:World}{ds:List Deferred}{r:Nat}{listed:Array Bool}{a:Act}{i:Nat}(hi:i<l.length)(h:Inv mn cx σ l ks f ev n vars Wr wd β0 I0 w0 ds r β I listed a w)(hun:listed.getD i false=false)
  (hset:∀ (j:Nat) (y:iU),ks[j]?=some y->y.k.loud y.q=true->j≠i->(j<i->listed.getD j false=true)/\(i<j->listed.getD j false=false)):r<=i/\Gr l f i=Gr l f r:=by
 have EZ:r<=i:=by
  rcases h.rl with h0|⟨x,h1,h2⟩
  ·omega
  ·rcases Qg2 i r with hlt|hge
   ·have hl:=(h.wrote _ x h1 h2).2 ae
    by_cases he:r-1=i
    ·rw[he,hun]at hl;cases hl
    ·rw[(hset _ x h1 h2 he).2 ae]at hl;cases hl
   ·exact hge
 refine⟨EZ,EG (H:=fun i=>(f i).H) EZ (fun j h1 h2 => ?_)⟩;have hk:j<ks.length:=by rw[R.Qa];omega
 cases hq:ks[j].k.loud ks[j].q with
 | false =>
  obtain⟨new,hn⟩:=R.quiet (Qa1 hk) hq;exact fT (H:=fun i=>(f i).H) ae hn
 | true =>
  have hl:=(hset j _ (Qa1 hk) hq ae).1 h2;have:=(h.wrote j _ (Qa1 hk) hq).1 hl;omega
end reg
end
section
theorem wR {aM:List (Option Tmp)}{t:Tmp}(h:eQ aM t=none):some t ∉ aM:=by
 unfold eQ at h;split at h
 ·cases h
 ·rename_i hi;rw[List.idxOf?,Xd1]at hi;intro hm;have:=hi (some t) (by simpa using hm);simp at this
theorem Ga {σ:Nat->Option FuncId}{β:Map}{I:Nat->Prop}{w:World}{n:Nat}{env:List FV}{aM:List (Option Tmp)}{a:Act}{ops:Array Oper}{o:Oper}
  (hloc:∀ g b t y,o.guard=some (g,b)->aM[g]?=some (some t)->env[g]?=some y->aI σ β I w n y (a.eval (.tmp t)))
  (hpre:∀ (j:Nat) (d:Option Tmp),aM[j]?=some d->(ops[j]?).bind (·.dst)=d) (hg:pM aM o.guard=true) {b:Bool} (hb:kS env o.guard=some b) :
  Region.wanted o (yielded ops a.tmps)=b:=by
 unfold Region.wanted;unfold kS at hb;cases hgd:o.guard with
 | none=>rw[hgd]at hb;simpa using hb
 | some p =>
  obtain⟨j,want⟩:=p;rw[hgd]at hb hg;simp only[pM]at hg;split at hg
  ·rename_i t ht;have hd:=hpre j _ ht;simp only at hb ⊢;have hy:yielded ops a.tmps j=match a.tmps[t]? with|some (.bool b)=>some b|_=>none:=by
    unfold yielded;rw[hd];rfl
   rw[hy];cases hev:env[j]? with
   | none=>rw[hev]at hb;cases hb
   | some y =>
    have hr:=hloc j want t y hgd ht hev;rw[hev]at hb;split at hb
    ·rename_i c he;cases he;cases hb;cases hr with
     | d hr =>
      generalize hz:a.eval (.tmp t)=z at hr;cases hr;have:a.tmps[t]?=some (.bool c):=by
       simp only[Act.eval,Qr2]at hz;cases hq:a.tmps[t]? with
       | none=>rw[hq]at hz;simp[undef]at hz
       | some q=>rw[hq]at hz;simp at hz;rw[hz]
      rw[this];cases c<;>cases want<;>rfl
    ·rename_i he;cases he;cases hb;cases hr with
     | d hr =>
      generalize hz:a.eval (.tmp t)=z at hr;cases hr with
      | @t _ vs hl' h2 =>
       have hvs:vs=#[]:=by simpa using hl'
       subst hvs;simp only[Act.eval,Qr2]at hz;cases hq:a.tmps[t]? with
       | none=>simp
       | some q=>rw[hq]at hz;simp at hz;rw[hz];simp
    ·cases hb
  ·cases hg
theorem apart_spec {st:St}:∀ {ap:List (Nat × Nat)},kg st ap=true->∀ {i j:Nat},(i,j) ∈ ap->∃ p o p' o',st.vars[i]?=some (.r p o)/\st.vars[j]?=some (.r p' o')/\p.abs st.base.length≠p'.abs st.base.length
 | [],_,i,j,h=>by simp at h
 | (i',j')::ap,h,i,j,hm=>by
  simp only[kg,Qa2]at h;rcases Qg1.1 hm with he|hm
  ·cases he;have h1:=h.1;split at h1
   ·rename_i p o p' o' e1 e2;exact⟨p,o,p',o',e1,e2,by simpa using h1⟩
   ·cases h1
  ·exact apart_spec h.2 hm
theorem Qb {E:Env}{rec:Nat->List FV->List ai->bF}{st st':St}{env:List FV}{agg:Bool}{m:Nat}{x:Arg}{v:FV}{p:Ref}{off:Nat}(hx:cu E st env x=some (.r p off))(h:runK E rec true st env (.load agg m x)=some (v,st')) :
  ∃ y,v=.d y:=by
 simp only[runK,hx]at h;split at h
 ·split at h
  ·split at h
   ·cases h
   ·rename_i v' hv hp;cases h;cases v<;>simp[iW]at hp;exact⟨_,rfl⟩
  ·cases h
 ·cases h
theorem Vu {n:Nat}{st:St}{v:FV}(hn:st.base.length=n)(h:vR st v=true):uS n st.H.length v:=by
 unfold vR at h;split at h
 ·exact .d _
 ·exact .r (by rw[<-hn,St.H,Qb0];simpa using h)
 ·exact .ls (by rw[<-hn,St.H,Qb0];simpa using h)
 ·exact .m (by rw[<-hn,St.H,Qb0];simpa using h)
 ·cases h
theorem y5 {E:Env}{st:St}{env:List FV}{b:Arg}:∀ {ps:List Arg},f_ E st env ps=true->b ∈ ps->∃ pl po,cu E st env b=some (.r (.loc pl) po)
 | [],_,hb=>by cases hb
 | a::r,h,hb=>by
  simp only[f_,Qa2]at h;rcases Qg1.1 hb with rfl|hb
  ·have h1:=h.1;split at h1
   ·exact⟨_,_,by assumption⟩
   ·cases h1
  ·exact y5 h.2 hb
theorem uU {E:Env}{st st':St}{ev:List FV}{i j:Nat}{a:Arg}{y:FV}{vars:List FV}(h1:st'.vars=vars)(h2:st.vars=vars)(hij:i<=j)(h:cu E st (ev.take i) a=some y):cu E st' (ev.take j) a=some y:=by
 cases a with
 | var k=>simp only[cu,h1,h2]at h ⊢;exact h
 | loc k =>
  simp only[cu,Qp1]at h ⊢;split at h
  ·rw[if_pos ae];exact h
  ·cases h
 | c x=>exact h
 | g k=>exact h
theorem LH {E:Env}{rec:Nat->List FV->List ai->bF}{q:Bool}{st st':St}{env:List FV}{agg:Bool}{m:Nat}{x:Arg}{v yy:FV}{p:Ref}(h:runK E rec q st env (.load agg m x)=some (v,st'))(hy:cu E st env x=some yy)
  (hor:(∃ off,yy=.r p off)\/∃ az sz i off,yy=.e p az sz i off):∃ o,st.heap p=some o:=by
 simp only[runK,hy]at h;rcases hor with ⟨_,rfl⟩|⟨_,_,_,_,rfl⟩
 ·simp only at h;cases hh:st.heap p with
  | none=>rw[hh]at h;cases h
  | some o=>exact⟨o,rfl⟩
 ·simp only at h;cases hh:st.heap p with
  | none=>rw[hh]at h;cases h
  | some o=>exact⟨o,rfl⟩
section step
variable {P:Program} {E:Env} {cx:Cx} {σ:Nat->Option FuncId} {rec:Nat->List FV->List ai->bF} {l:List Oper} {ks:List iU} {ap:List (Nat × Nat)} {f:Nat->St} {ev:List FV} {n:Nat} {vars:List FV} {Wr wd:Nat->Prop}
variable {β0 β:Map} {I0 I:Nat->Prop} {w0 w:World} {ds:List Deferred} {r:Nat} {listed:Array Bool} {a:Act} {i:Nat} {o:Oper} {ops:Array Oper} {Q:Exit->Act->World->Prop}
theorem P_.operand (R:P_ P E cx σ rec l ks ap f ev n vars wd)(h:Inv E.mn cx σ l ks f ev n vars Wr wd β0 I0 w0 ds r β I listed a w)(hG:dE E σ I w)(ho:l[i]?=some o)(hun:listed.getD i false=false)
  (hset:∀ j,Qv l i j->(j<i->listed.getD j false=true)/\(i<j->listed.getD j false=false)) {ty:TypeId} {x:Operand} {y:Arg} {v:FV} (hx:x ∈ o.op.operands.toList)
  (hc:iB P cx ((l.take i).map (·.dst)) ty x=some y) (hv:cu E (f i) (ev.take i) y=some v):aI σ β I w n v (a.eval x)/\uS n (f i).H.length v:=by
 have hil:i<l.length:=(aS ho)
 unfold iB at hc;cases x with
 | tmp t =>
  have htm:t ∈ tmpsOf o:=by
   unfold tmpsOf;rw[List.mem_filterMap];exact⟨.tmp t,hx,rfl⟩
  simp only at hc;split at hc
  ·rename_i j hj;cases hc;have h1:=p9 hj;simp only[Qc1,Qg0,Qp1]at h1;obtain⟨oj,h2,h3⟩:=h1;split at h2
   ·rename_i hji;have hne:j≠i:=ae;have hcm:=((R.ord.dst j i oj o t h2 ho hne h3).2 htm).symm;have hlj:=(hset j hcm).1 hji;simp only[cu,Qp1,if_pos hji]at hv;exact⟨h.loc j oj t v h2 h3 hlj hv,(h.vb j v hlj hv).mono (R.le ae ae)⟩
   ·cases h2
  ·rename_i hno;split at hc<;>simp at hc;subst hc;rename_i j hj;have hjt:=nE hj;simp only[cu,R.Zo i ae]at hv;refine⟨h.var j t v hjt (fun i' o' ho' ht => ?_) hv,(R.afT j t v hjt hv).mono (R.le (Qy1 _) ae)⟩;rcases Nat.lt_trichotomy i' i with hl|hl|hl
   ·refine absurd ?_ (wR hno);rw[Qj2];refine⟨o',?_,ht⟩;rw[List.mem_take_iff_getElem];have hi':=Qm0.1 ho';exact⟨i',ae,hi'.2⟩
   ·subst hl;exact hun
   ·have hcm:=((R.ord.dst i' i o' o t ho' ho ae ht).2 htm).symm;exact(hset i' hcm).2 hl
 | const z =>
  simp only at hc;split at hc<;>simp at hc;subst hc;rename_i hz;simp only[cu,Qd2]at hv;subst hv;exact⟨.d (rJ R.gid hz),.d _⟩
 | func g =>
  simp only at hc;split at hc<;>simp at hc;subst hc;rename_i hz;simp only[cu,Qd2]at hv;subst hv;exact⟨.d (.fn (R.gid _ _ hz)),.d _⟩
 | global k =>
  simp only at hc;cases hc;simp only[cu]at hv;split at hv<;>simp at hv;subst hv;rename_i z hz;obtain⟨h1,h2,h3,_⟩:=hG _ _ hz;exact⟨.rc h1 h2 h3,.rc _⟩
theorem jC (hi:ops[i]?=some o)(hw:Region.wanted o (yielded ops a.tmps)=true){Φ:Value->World->Prop}(hy:Yields P o a.eval w Φ){K:Act->World->Prop}(hK:∀ x w',Φ x w'->K (a.put o.dst x) w'):wpOp P ops Q i K a w:=by
 unfold wpOp;simp only[hi,hw,if_true];exact .inl (hy.wp hK)
theorem wS (hi:ops[i]?=some o)(hw:Region.wanted o (yielded ops a.tmps)=false){K:Act->World->Prop}(hK:K (a.put o.dst undef) w):wpOp P ops Q i K a w:=by
 unfold wpOp;simp only[hi,hw];exact hK
theorem P_.step (R:P_ P E cx σ rec l ks ap f ev n vars wd)(hl:ops.toList=l)(hG0:dE E σ I0 w0)(hs:listed.size=ops.size)
  (hcl:∀ (j:Nat) (o:Oper) e,ops[j]?=some o->listed.getD j false=true->e ∈ o.after->Region.binds .any e=true->listed.getD e.on false=true)
  (h:Inv E.mn cx σ l ks f ev n vars Wr wd β0 I0 w0 ds r β I listed a w) (hi:i ∈ Region.ready .any ops listed) (Kn:Act->World->Prop)
  (hK:∀ a' w',(∃ r' β' I',Inv E.mn cx σ l ks f ev n vars Wr wd β0 I0 w0 ds r' β' I' (listed.setIfInBounds i true) a' w')->Kn a' w'):wpOp P ops Q i Kn a w:=by
 obtain⟨acT,o,hoi,hall⟩:=mem_ready.1 hi;have hat:∀ j,l[j]?=ops[j]?:=fun j=>by rw[<-hl,Qt2]
 have hsl:listed.size=l.length:=by rw[hs,<-hl,Xf2]
 have ho:l[i]?=some o:=by rw[hat];exact hoi
 have hil:i<l.length:=(aS ho)
 have hun:listed.getD i false=false:=by
  simp only[Qr2]at acT ⊢;rw[Qh0 ae]at acT ⊢;simpa using acT
 have hclosed:∀ p j,V6 l p j->listed.getD p false=true->listed.getD j false=true:=by
  intro p j hb
  induction hb with
  | edge h1 h2 h3=>intro hp;exact hcl _ _ _ (by rw[<-hat];exact h1) hp h2 h3
  | step h1 h2 h3 _ ih=>intro hp;exact ih (hcl _ _ _ (by rw[<-hat];exact h1) hp h2 h3)
 have hbef:∀ j,V6 l i j->listed.getD j false=true:=by
  intro j hb;cases hb with
  | edge h1 h2 h3=>rw[ho]at h1;cases h1;exact hall _ h2 h3
  | step h1 h2 h3 h4=>rw[ho]at h1;cases h1;exact hclosed _ _ h4 (hall _ h2 h3)
 have hset:∀ j,Qv l i j->(j<i->listed.getD j false=true)/\(i<j->listed.getD j false=false):=by
  intro j hc;refine⟨fun hj=>hbef j (hc.2 hj),fun hj => ?_⟩;cases hq:listed.getD j false with
  | false=>rfl
  | true=>rw[hclosed j i (hc.1 hj) hq]at hun;cases hun
 obtain⟨x,hx,hcomp,hgd,ahK,Qc⟩:=R.comp i o ho;obtain⟨v,hv,htr⟩:=R.tr.step i x hx;have hG:dE E σ I w:=hG0.mono h.ext.im h.ext.eB;have hop:∀ {ty:TypeId} {z:Operand} {y:Arg} {v:FV},z ∈ o.op.operands.toList->iB P cx ((l.take i).map (·.dst)) ty z=some y->cu E (f i) (ev.take i) y=some v->aI σ β I w n v (a.eval z)/\uS n (f i).H.length v :=
  fun hz hc hv=>R.operand h hG ho hun hset hz hc hv
 have hbase:=R.base i ae;have hvars:=R.Zo i ae
 -- the guard
 have hguard:∀ b,kS (ev.take i) x.guard=some b->Region.wanted o (yielded ops a.tmps)=b:=by
  intro b hb;rw[hgd]at hb;refine Ga (σ:=σ) (β:=β) (I:=I) (w:=w) (n:=n) (env:=ev.take i) (aM:=(l.take i).map (·.dst)) (fun g b t y h1 h2 h3 => ?_) (fun j d hj => ?_) ahK hb
  ·simp only[Qc1,Qg0,Qp1]at h2;obtain⟨og,h4,h5⟩:=h2;split at h4
   ·rename_i hgi;simp only[Qp1,if_pos hgi]at h3;exact h.loc g og t y h4 h5 (hbef g (R.ord.grd i o g b ho h1)) h3
   ·cases h4
  ·simp only[Qc1,Qg0,Qp1]at hj;obtain⟨oj,h4,h5⟩:=hj;split at h4
   ·rw[<-hat,h4];exact h5
   ·cases h4
 simp only[Qn0]at htr;cases hlo:x.k.loud x.q with
 | true =>
  have hcmp:∀ (j:Nat) (y:iU),ks[j]?=some y->y.k.mem=true->j≠i->Qv l i j\/∃ g m z,y.k=.load g m z\/y.k=.jc g m z\/∃ ps,y.k=.kK g m z ps:=by
   intro j y hy hm hne;rcases R.ord.mem i j x y hx hy (Ne.symm hne) hlo hm with h1|⟨_,p,h2,_⟩|⟨_,g,m',a',_,e2,_,_⟩|⟨_,_,_,_,g,m',a',ps',_,e2,_,_⟩
   ·exact .inl h1
   ·obtain⟨_,_,_,g,m',a',_,e2,_⟩:=ou h2;exact .inr ⟨_,_,_,.inl e2⟩
   ·exact .inr ⟨_,_,_,.inr (.inl e2)⟩
   ·exact .inr ⟨_,_,_,.inr (.inr ⟨_,e2⟩)⟩
  have aab:∀ (j:Nat) (y:iU),ks[j]?=some y->y.k.loud y.q=true->j≠i->(j<i->listed.getD j false=true)/\(i<j->listed.getD j false=false):=by
   intro j y hy hl hne;rcases hcmp j y hy (Vt hl) hne with h1|⟨g,m,z,e|e|⟨_,e⟩⟩
   ·exact hset j h1
   ·rw[e]at hl;simp[Fi.K.loud]at hl
   ·rw[e]at hl;simp[Fi.K.loud]at hl
   ·rw[e]at hl;simp[Fi.K.loud]at hl
  obtain⟨EZ,hGi⟩:=R.own hil h hun aab;have hmk:∀ j,j<l.length->j≠i->(f j).H.length<(f (j+1)).H.length->(j<i->listed.getD j false=true)/\(i<j->listed.getD j false=false):=by
   intro j hj hne hlt;have hk:j<ks.length:=by rw[R.Qa];exact hj
   obtain⟨hm,hno⟩:=R.makes (Qa1 hk) hlt;rcases hcmp j _ (Qa1 hk) hm hne with h1|⟨g,m,z,e|e|⟨_,e⟩⟩
   ·exact hset j h1
   ·exact absurd e (hno.1 g m z).1
   ·exact absurd e (hno.1 g m z).2
   ·exact absurd e (hno.2 g m z _)
  have hwr:∀ (j:Nat) (y:iU),ks[j]?=some y->y.k.loud y.q=true->((listed.setIfInBounds i true).getD j false=true↔j<i+1):=by
   intro j y hy hl
   by_cases hji:j=i
   ·subst hji;simp[set_self (listed:=listed) hsl hil]
   ·rw[getD_set_ne false (Ne.symm hji)];have:=aab j y hy hl hji;constructor
    ·intro ht;rcases Qg2 i j with hlt|hge
     ·rw[this.2 hlt]at ht;cases ht
     ·omega
    ·intro hlt;exact this.1 ae
  have hrl:i+1=0\/∃ x,ks[i+1-1]?=some x/\x.k.loud x.q=true:=.inr ⟨x,by simpa using hx,hlo⟩;rcases htr with ⟨hg,hv0,hf⟩|⟨hg,hrun⟩
  ·-- not carried out
   refine wS hoi (hguard _ hg) (hK _ w ⟨i+1,β,I,?_⟩);subst hv0;have hGs:Gr l f (i+1)=Gr l f r:=by
    rw[<-hGi];exact fT (H:=fun i=>(f i).H) hil (new:=[]) (by simp[hf])
   refine h.next R.ord ho hsl Qc hv ae hrl hwr (Ext.refl _ _ _ _) (by rw[hGs];exact h.pG) (fun j hj _ hun=>h.gap j hj hun) (fun i' h1 h2 k cs z h3 h4 h5 => ?_) (.d _) kP
   rw[hGs]at h4;exact h.cb i' ae h2 k cs z h3 h4 h5
  ·-- it writes
   have Vv:∀ k u,(f i).H.length<=k->β k u=none:=by
    intro k u hk;cases hβ:β k u with
    | none=>rfl
    | some z =>
     have hd:=h.pG.dom k u z hβ;rw[R.rO h.rle]at hd;obtain⟨j,h1,h2,h3,h4⟩:=Zn (H:=fun i=>(f i).H) hk (l.length-i) ae hd;cases hlj:listed.getD j false with
     | false=>rw[h.gap j h2 hlj k u h3 h4]at hβ;cases hβ
     | true =>
      have hne:j≠i:=fun e=>by subst e;rw[hun]at hlj;cases hlj
      rw[(hmk j h2 hne ae).2 ae]at hlj;cases hlj
   have Jo:aZ σ (f i).base.length β I Wr wd ((f i).base++(f i).loc) w:=by
    rw[hbase];have:=h.pG;rw[<-hGi]at this;exact aZ.pre (H:=(f i).H) this Vv
   have hA:bV P E cx σ β I w (f i) (ev.take i) ((l.take i).map (·.dst)) a.eval o.op.operands.toList:=by
    intro ty z y v' hz hc hv';rw[hbase];exact(hop hz hc hv').1
   have ahL:iN (f i).base.length (f (i+1)) wd:=by rw[hbase];exact R.mw (i+1) ae
   refine jC hoi (hguard _ hg) (yh R.gid R.bod R.rl R.rc hG hA hcomp hrun (fun _=>ahL) Jo) (fun z w' hp=>hK _ w' ⟨i+1,?_⟩);obtain⟨β',I',hxt,hS',hR',_⟩:=hp;rw[hbase]at hS' hR';have hdom:∀ k u z,β' k u=some z->k<(f (i+1)).H.length:=hS'.dom;refine⟨β',I',h.next R.ord ho hsl Qc hv ae hrl hwr hxt (aZ.app (H:=(f (i+1)).H) hS' _) (fun j hj hne Vw k u h1 h2 => ?_) (fun i' h1 h2 k cs y h3 h4 h5 => ?_) (hR'.bnd hdom) hR'⟩
   ·rcases Qg2 j i with hlt|hge
    ·rw[(hmk j hj hne ae).1 hlt]at Vw;cases Vw
    ·have:(f (i+1)).H.length<=(f j).H.length:=R.le ae ae;cases hβ:β' k u with
     | none=>rfl
     | some y=>have:=hdom k u y hβ;omega
   ·have hk:=hdom k 0 y h5;have h6:(f (i+1)).H[k]?=some (.box cs):=by
     rw[<-h4];exact(Jn (H:=fun i=>(f i).H) hk).symm
    obtain⟨b,bo,cap⟩:=y;obtain⟨_,c,e,_,g2,g3⟩:=hS'.box k cs b bo cap h6 h5;intro cc hcc;obtain⟨j,z',e1,e2⟩:=uT g2 hcc;exact((g3 j cc z' e1 e2).bnd hdom).mono (R.le ae h2)
 | false =>
  have hqq:∀ y,ks[i]?=some y->y.k.loud y.q=false:=fun y hy=>by rw[hx]at hy;cases hy;exact hlo
  rcases htr with ⟨hg,hv0,hf⟩|⟨hg,hrun⟩
  ·subst hv0;exact wS hoi (hguard _ hg) (hK _ w ⟨r,β,I,h.same R.ord ho hsl Qc hv hqq (Ext.refl β I _ w) h.pG.kR (.d _) kP⟩)
  ·have aac:(Gr l f r).length=(f l.length).H.length:=R.rO h.rle;cases hm:x.k.mem with
   | false =>
    obtain⟨hf,hany⟩:=runK_pure hm hrun;have Vx:=h.pG.blank (m:=(f i).H.length);have hlen:(((Gr l f r).take (f i).H.length).map ai.blank).length=(f i).H.length:=by
     rw[Qk0,Ql2,aac];have:=R.le (i:=i) (j:=l.length) ae (Qd1 _);omega
    generalize hA':((Gr l f r).take (f i).H.length).map ai.blank=A' at Vx hlen
    let st2:St:={vars:=(f i).vars,base:=A'.take n,loc:=A'.drop n,aQ:=false}
    have hb2:st2.base.length=n:=by
     have:=R.afU (i:=i) ae;simp only[st2,Ql2];omega
    have hH2:st2.base++st2.loc=A':=Xc0 n A';have hS2:aZ σ st2.base.length (β.upto (f i).H.length) I (fun b=>w.heap.size<=b) (fun _=>False) (st2.base++st2.loc) w:=by rw[hb2,hH2];exact Vx
    have hA2:bV P E cx σ (β.upto (f i).H.length) I w st2 (ev.take i) ((l.take i).map (·.dst)) a.eval o.op.operands.toList:=by
     intro ty z y v' hz hc hv';rw[hb2];obtain⟨g1,g2⟩:=hop hz hc hv';exact g1.upto g2
    refine jC hoi (hguard _ hg) (yh R.gid R.bod R.rl R.rc hG hA2 hcomp (hany st2 rfl) (fun hl=>by rw[hlo]at hl;cases hl) hS2) (fun z w' hp=>hK _ w' ⟨r,β,?_⟩);obtain⟨β',I',hxt,hS',hR',hk'⟩:=hp;rw[hH2,hlen]at hk';rw[hb2,hH2]at hS';rw[hb2]at hR';have hdom:∀ k u z,β' k u=some z->k<(f i).H.length:=fun k u z hz=>by have:=hS'.dom k u z hz;rw[hlen]at this;exact this
    refine⟨I',h.same R.ord ho hsl Qc hv hqq hxt hS'.kR ((hR'.bnd hdom).mono (R.mono i hil)) (hR'.mono (fun k u z hz => ?_) (fun _ h=>h) (fun _ _=>rfl))⟩;have h1:=hdom k u z hz;rw[hk' k u h1 (fun h=>h),Map.p_ h1]at hz;exact hz
   | true =>
    by_cases hcmp:∀ (j:Nat) (y:iU),ks[j]?=some y->y.k.loud y.q=true->j≠i->Qv l i j
    ·-- it has been compared with all that is loud
     obtain⟨EZ,hGi⟩:=R.own hil h hun (fun j y hy hl hne=>hset j (hcmp j y hy hl hne));obtain⟨new,hnew⟩:=R.quiet hx hlo;have hfl:Gr l f r=(f i).H++new++tails (fun i=>(f i).H) (l.length-(i+1)) (i+1):=by
      rw[<-hGi];have:=wQ (H:=fun i=>(f i).H) hil;simp only[hnew,List.drop_append_of_le_length (Qd1 _),Qp2,Qn0]at this;exact this
     have hlen1:(f (i+1)).H.length=(f i).H.length+new.length:=by rw[hnew,Qb0]
     have Jo:=h.pG;rw[hfl]at Jo;have hS0:aZ σ (f i).base.length (β.upto (f i).H.length) I (fun b=>w.heap.size<=b) (fun k=>(f i).H.length<=k) ((f i).base++(f i).loc) w:=by
      rw[hbase];refine aZ.first (A:=(f i).H) (T:=new++tails (fun i=>(f i).H) (l.length-(i+1)) (i+1)) (by rw[<-Qk2];exact Jo) (fun k cs b bo cap h1 h2 j c y h3 h4=>h4.upto ?_)
      have hk:=(aS h1)
      refine h.cb i EZ ae k cs _ hk ?_ h2 c (Qb2 h3);rw[hfl,Qk2];exact bJ h1
     have hA:bV P E cx σ (β.upto (f i).H.length) I w (f i) (ev.take i) ((l.take i).map (·.dst)) a.eval o.op.operands.toList:=by
      intro ty z y v' hz hc hv';rw[hbase];obtain⟨g1,g2⟩:=hop hz hc hv';exact g1.upto g2
     refine jC hoi (hguard _ hg) (yh R.gid R.bod R.rl R.rc hG hA hcomp hrun (fun hl=>by rw[hlo]at hl;cases hl) hS0) (fun z w' hp => ?_);obtain⟨β',I',hxt,hS',hR',hk'⟩:=hp;rw[hbase]at hS' hR';have hdom:∀ k u z,β' k u=some z->k<(f (i+1)).H.length:=hS'.dom;have hkb:∀ k u,k<(f i).H.length->β' k u=β k u:=fun k u hk=>by
      rw[hk' k u hk (by simp only[St.H]at hk ⊢;omega),Map.p_ hk]
     have hS1:aZ σ n β' I' (fun b=>w.heap.size<=b) (fun k=>(f i).H.length<=k) ((f i).H++new) w':=by rw[<-hnew];exact hS'
     obtain⟨hx2,hS2⟩:=aZ.acQ Jo (fun k u h1 h2=>h.gap i hil hun k u h1 ae) hxt hS1 hkb;rw[<-hlen1]at hx2 hS2;refine hK _ w' ⟨r,_,I',h.next R.ord ho hsl Qc hv h.rle h.rl (fun j y hy hl => ?_) hx2 (by rw[hfl];exact hS2) (fun j hj hne Vw k u h1 h2 => ?_) (fun i' h1 h2 k cs y h3 h4 h5 => ?_) (hR'.bnd hdom) (hR'.mono (fun k u z hz => ?_) (fun _ h=>h) (fun _ _=>rfl))⟩
     ·have:j≠i:=fun e=>by subst e;rw[hqq y hy]at hl;cases hl
      rw[getD_set_ne false (Ne.symm this)];exact h.wrote j y hy hl
     ·rcases Qg2 j i with hlt|hge
      ·have h3:(f (j+1)).H.length<=(f i).H.length:=R.le ae ae;rw[Map.iV ae,hkb k u ae];exact h.gap j hj Vw k u h1 h2
      ·have h3:(f (i+1)).H.length<=(f j).H.length:=R.le ae ae;rw[Map.lT ae];exact h.gap j hj Vw k u h1 h2
     ·rcases Qg2 k (f i).H.length with hk1|hk1
      ·rw[Map.iV ae,hkb k 0 hk1]at h5;exact h.cb i' h1 h2 k cs y h3 h4 h5
      ·rcases Qg2 k (f (i+1)).H.length with hk2|hk2
       ·rw[Map.iV hk2]at h5;have hii:i+1<=i':=by
         rcases Qg2 i i' with hlt|hge
         ·exact hlt
         ·have:=R.le hge ae;omega
        have h6:((f i).H++new)[k]?=some (.box cs):=by
         rw[hfl,Qa0 (by rw[Qb0];omega)]at h4;exact h4
        obtain⟨b,bo,cap⟩:=y;obtain⟨_,c,e,_,g2,g3⟩:=hS1.box k cs b bo cap h6 h5;intro cc hcc;obtain⟨j,z',e1,e2⟩:=uT g2 hcc;exact((g3 j cc z' e1 e2).bnd hdom).mono (R.le hii h2)
       ·rw[Map.lT hk2]at h5;exact h.cb i' h1 h2 k cs y h3 h4 h5
     ·rw[Map.iV (hdom k u z hz)];exact hz
    ·-- a load that may come before or behind a store,or a call
     have hex:∃ (j:Nat) (y:iU),ks[j]?=some y/\y.k.loud y.q=true/\j≠i/\¬ Qv l i j:=by
      refine Classical.byContradiction fun hno=>hcmp fun j y hy hl hne=>Classical.byContradiction fun hc=>hno ⟨j,y,hy,hl,hne,hc⟩
     obtain⟨j0,y0,hy0,hl0,hne0,ahM⟩:=hex;have ahN:∃ g0 m0 ax,x.k.F4=.load g0 m0 ax/\runK E rec x.q (f i) (ev.take i) (.load g0 m0 ax)=some (v,f (i+1))/\uS n (f i).H.length v /\
       ∀ (p:Ref) (yy:FV),cu E (f i) (ev.take i) ax=some yy->((∃ off,yy=.r p off)\/∃ az sz i off,yy=.e p az sz i off) ->
        ∀ (j:Nat) (y:iU),ks[j]?=some y->y.k.loud y.q=true->j≠i->j<l.length->¬ Qv l i j->(Gr l f (j+1))[p.abs n]?=(Gr l f j)[p.abs n]?:=by
      rcases(R.ord.mem j0 i y0 x hy0 hx hne0 hl0 hm).resolve_left (fun hc=>ahM hc.symm) with ⟨hxq,p0,hp0,ahO⟩|⟨psj,g0,m0,ax,d1,d2,d3,d4⟩|⟨sz0,by0,s0,v0,g0,m0,ax,ps0,d1,d2,d3,d4⟩
      ·obtain⟨m0,b0,x0,g0,m0',a0,e1,e2,e3⟩:=ou hp0;subst e3;obtain⟨p,po,p',po',hva,hvb,hpp⟩:=apart_spec R.apart ahO;rw[R.Zo 0 ae]at hva;have afV:cu E (f i) (ev.take i) (.var a0)=some (.r p po):=by simp only[cu,hvars];exact hva
       have hrun':=hrun;rw[e2,hxq]at hrun';obtain⟨y,hvy⟩:=Qb afV hrun';refine⟨g0,m0',.var a0,by rw[e2];rfl,by rw[<-e2];exact hrun,by rw[hvy];exact .d _,fun pp yy V7 hor j y hy hl hne hjl hnc => ?_⟩;rw[afV]at V7;cases V7;obtain rfl:pp=p:=by
        rcases hor with ⟨_,e⟩|⟨_,_,_,_,e⟩
        ·cases e;rfl
        ·cases e
       rcases(R.ord.mem j i y x hy hx hne hl hm).resolve_left (fun hc=>hnc hc.symm) with ⟨_,pj,hpj,ahP⟩|⟨_,_,_,_,_,q2,_⟩|⟨_,_,_,_,_,_,_,_,_,q2,_,_⟩
       ·obtain⟨mj,bj,xj,gj,mj',aj,d1,d2,d3⟩:=ou hpj;subst d3;rw[e2]at d2;cases d2;obtain⟨pq,pqo,pq',ahQ,hqa,hqb,PW⟩:=apart_spec R.apart ahP;rw[R.Zo 0 ae]at hqa hqb;rw[hva]at hqa;cases hqa;rw[R.base 0 ae]at PW;obtain⟨vj,_,hj⟩:=R.tr.step j y hy;rcases hj with ⟨_,_,hj⟩|⟨_,hj⟩
        ·exact congrArg (fun L:List ai=>L[pp.abs n]?) (fT (H:=fun i=>(f i).H) hjl (new:=[]) (by simp[hj]))
        ·rw[d1]at hj;obtain⟨oo,Gq⟩:=LF (b:=bj) (p:=pq') (o0:=ahQ) (by rw[R.Zo j ae];exact hqb) hj;rw[R.base j ae]at Gq;exact Cs (H:=fun i=>(f i).H) hjl Gq PW
       ·rw[e2]at q2;cases q2
       ·rw[e2]at q2;cases q2
      ·have hrun':=hrun;rw[d2]at hrun';obtain⟨hr1,hb1⟩:=mE hrun';refine⟨g0,m0,ax,by rw[d2];rfl,hr1,Vu hbase hb1,fun pp yy V7 hor j y hy hl hne hjl hnc => ?_⟩;rcases(R.ord.mem j i y x hy hx hne hl hm).resolve_left (fun hc=>hnc hc.symm) with ⟨_,pj,hpj,_⟩|⟨akD,g',m',ax',q1,q2,q3,b,hb,hsb⟩|⟨_,_,_,_,_,_,_,_,_,q2,_,_⟩
       ·obtain⟨_,_,_,_,_,_,_,q2,_⟩:=ou hpj;rw[d2]at q2;cases q2
       ·rw[d2]at q2;cases q2;obtain⟨vj,_,hj⟩:=R.tr.step j y hy;simp only[Qn0]at hj;rcases hj with ⟨_,_,hj⟩|⟨_,hj⟩
        ·exact congrArg (fun L:List ai=>L[pp.abs n]?) (fT (H:=fun i=>(f i).H) hjl (new:=[]) (by simp[hj]))
        ·rcases q1 with ⟨fj',akE,q1⟩|⟨nj,pj,vj',q1⟩
         rotate_left
         ·rw[q1]at hj;obtain⟨Vv,hj1⟩:=nC hj;have hax:cu E (f j) (ev.take j) ax=some yy:=uU (R.Zo j ae) hvars ae V7;obtain⟨q,oo,hqo,PW⟩:=Jk (by rw[<-Cr hsb];exact hax) (show yy.target=some pp by rcases hor with ⟨_,rfl⟩|⟨_,_,_,_,rfl⟩<;>rfl) Vv hb hj1;rw[R.base j ae]at hqo PW;exact Cs (H:=fun i=>(f i).H) hjl hqo (Ne.symm PW)
         rw[q1]at hj;obtain⟨hloc,st1,hj1,hj2⟩:=Et hj;obtain⟨pl,po,hab⟩:=y5 hloc hb;have hax:cu E (f j) (ev.take j) ax=some yy:=uU (R.Zo j ae) hvars ae V7;rw[Cr hsb,hab]at hax;cases hax;obtain rfl:pp=.loc pl:=by
          rcases hor with ⟨_,e⟩|⟨_,_,_,_,e⟩
          ·cases e;rfl
          ·cases e
         rcases hj2 with ⟨_,h5,new,h6⟩|⟨h5,h6⟩
         ·exact congrArg (fun L:List ai=>L[(Ref.loc pl).abs n]?) (fT (H:=fun i=>(f i).H) hjl (new:=new) (by simp only[St.H,h5,h6,Qk2]))
         ·refine P9 (H:=fun i=>(f i).H) hjl (R.mono j hjl) (fun hk => ?_);have hb1:=(nZ R.rl hj1).base;have hbj:=R.base j ae;rw[h6];simp only[St.H,Ref.abs]at hk ⊢;rw[Qb0]at hk;have hpl:pl<(f j).loc.length:=ae;have i1:n+pl-st1.base.length=pl:=ae;have i2:n+pl-(f j).base.length=pl:=ae;rw[Qb1 (show st1.base.length<=n+pl by omega),Qb1 (show(f j).base.length<=n+pl by omega),i1,i2];exact Qa0 hpl
       ·rw[d2]at q2;cases q2
      ·have hrun':=hrun;rw[d2]at hrun';obtain⟨Vv,hr1,hb1⟩:=j5 hrun';refine⟨g0,m0,ax,by rw[d2];rfl,hr1,Vu hbase hb1,fun pp yy V7 hor j y hy hl hne hjl hnc => ?_⟩;rcases(R.ord.mem j i y x hy hx hne hl hm).resolve_left (fun hc=>hnc hc.symm) with ⟨_,pj,hpj,_⟩|⟨_,_,_,_,_,q2,_⟩|⟨dY,by',s',v',g',m',a',ps',q1,q2,q3,q4⟩
       ·obtain⟨_,_,_,_,_,_,_,q2,_⟩:=ou hpj;rw[d2]at q2;cases q2
       ·rw[d2]at q2;cases q2
       ·rw[d2]at q2;cases q2;obtain⟨vj,_,hj⟩:=R.tr.step j y hy;simp only[Qn0]at hj;rcases hj with ⟨_,_,hj⟩|⟨_,hj⟩
        ·exact congrArg (fun L:List ai=>L[pp.abs n]?) (fT (H:=fun i=>(f i).H) hjl (new:=[]) (by simp[hj]))
        ·rw[q1]at hj;cases hsv:cu E (f j) (ev.take j) s' with
         | none=>simp[runK,hsv]at hj
         | some sv =>
          have hsi:cu E (f i) (ev.take i) s'=some sv:=uU hvars (R.Zo j ae) ae hsv;rcases Vp V7 (show yy.target=some pp by rcases hor with ⟨_,rfl⟩|⟨_,_,_,_,rfl⟩<;>rfl) Vv q4 (hsv.trans hsi.symm) (by rw[R.base j ae,hbase]) hj with ⟨new,hn⟩|⟨q,oo,hqo,PW⟩
          ·exact congrArg (fun L:List ai=>L[pp.abs n]?) (fT (H:=fun i=>(f i).H) hjl hn)
          ·rw[hbase]at hqo PW;exact Cs (H:=fun i=>(f i).H) hjl hqo (Ne.symm PW)
     obtain⟨g0,m0,ax,afX,hrun,afY,aad⟩:=ahN;have Nj:∀ (p:Ref) (j:Nat) (y:iU),ks[j]?=some y->y.k.loud y.q=false->j<l.length->(Gr l f (j+1))[p.abs n]?=(Gr l f j)[p.abs n]?:=by
      intro p j y hy hl hjl;obtain⟨new,hn⟩:=R.quiet hy hl;exact congrArg (fun L:List ai=>L[p.abs n]?) (fT (H:=fun i=>(f i).H) hjl hn)
     have acU:∀ (p:Ref) (yy:FV),cu E (f i) (ev.take i) ax=some yy->((∃ off,yy=.r p off)\/∃ az sz i off,yy=.e p az sz i off)->(Gr l f r)[p.abs n]?=(Gr l f i)[p.abs n]?:=by
      intro p yy V7 hor;rcases Nat.le_total r i with EZ|EZ
      ·refine(Ct (H:=fun i=>(f i).H) EZ (fun j h1 h2 => ?_)).symm;have hk:j<ks.length:=by rw[R.Qa];omega
       cases hq:ks[j].k.loud ks[j].q with
       | false=>exact Nj p j _ (Qa1 hk) hq ae
       | true =>
        refine aad p yy V7 hor j _ (Qa1 hk) hq ae ae (fun hc => ?_);have:=(h.wrote j _ (Qa1 hk) hq).1 ((hset j hc).1 h2);omega
      ·refine Ct (H:=fun i=>(f i).H) EZ (fun j h1 h2 => ?_);have hrl:=h.rle;have hk:j<ks.length:=by rw[R.Qa];omega
       cases hq:ks[j].k.loud ks[j].q with
       | false=>exact Nj p j _ (Qa1 hk) hq ae
       | true =>
        have hlj:=(h.wrote j _ (Qa1 hk) hq).2 h2;have hne:j≠i:=fun e=>by subst e;rw[hun]at hlj;cases hlj
        refine aad p yy V7 hor j _ (Qa1 hk) hq hne ae (fun hc => ?_);rw[(hset j hc).2 ae]at hlj;cases hlj
     rw[afX]at hcomp;obtain⟨hfi,hany⟩:=sU hrun
     let st2:St:={vars:=(f i).vars,base:=(Gr l f r).take n,loc:=(Gr l f r).drop n,aQ:=false}
     have hb2:st2.base.length=n:=by
      have:=R.afU (i:=l.length) (Qd1 _);simp only[st2,Ql2];omega
     have hH2:st2.base++st2.loc=Gr l f r:=Xc0 n _;have hS2:aZ σ st2.base.length β I (fun b=>w.heap.size<=b) (fun _=>False) (st2.base++st2.loc) w:=by
      rw[hb2,hH2];exact h.pG.aek (fun _ h=>h) (fun _ _ _ _ _ _ _ h=>h.elim) (fun _ _ _ _ _ _ _ _ _ _ _ h=>h)
     have hA2:bV P E cx σ β I w st2 (ev.take i) ((l.take i).map (·.dst)) a.eval o.op.operands.toList:=by
      intro ty z y v' hz hc hv';rw[hb2];exact(hop hz hc hv').1
     have afZ:=hany st2 rfl (fun q yy hq hor=>by
      have LJ:=LH hrun hq hor;rw[St.eD]at LJ;rw[hbase]at LJ;obtain⟨oo,Gq⟩:=LJ;have hpl:q.abs n<(f i).H.length:=(aS Gq)
      rw[St.eD,St.eD,hb2,hH2,hbase,acU q yy hq hor];exact Jn (H:=fun i=>(f i).H) hpl)
     refine jC hoi (hguard _ hg) (mI R.gid R.bod R.rl R.rc hG hA2 hcomp afZ (fun hl=>by simp[Fi.K.loud]at hl) hS2) (fun z w' hp=>hK _ w' ⟨r,β,?_⟩);obtain⟨β',I',hxt,hS',hR',hk'⟩:=hp;rw[hH2]at hk';rw[hb2]at hR';have hlr:(f i).H.length<=(Gr l f r).length:=by
      rw[aac];exact R.le ae (Qd1 _)
     refine⟨I',h.same R.ord ho hsl Qc hv hqq hxt hS'.kR (afY.mono (R.mono i hil)) ((hR'.upto afY).mono (fun k u z hz => ?_) (fun _ h=>h) (fun _ _=>rfl))⟩;obtain⟨h1,h2⟩:=Map.bY hz;rw[hk' k u ae (fun h=>h)]at h2;exact h2
end step
end
section
section comp
variable {P:Program} {cx:Cx}
theorem wT:∀ {l:List Oper} {aM:List (Option Tmp)} {ks:List iU},lK P cx l aM=some ks->ks.length=l.length /\
  ∀ (i:Nat) (o:Oper),l[i]?=some o->∃ x,ks[i]?=some x/\aX P cx (aM++(l.take i).map (·.dst)) o=some x.k/\x.guard=o.guard/\pM (aM++(l.take i).map (·.dst)) o.guard=true/\wB cx o.dst=true
 | [],aM,ks,h=>by
  simp[lK]at h;subst h;exact⟨rfl,fun i o hi=>by simp at hi⟩
 | o::l,aM,ks,h=>by
  simp only[lK]at h;split at h
  ·rename_i hg;simp only[Qa2]at hg;split at h<;>simp at h;subst h;rename_i k ks hk hks;obtain⟨h1,h2⟩:=wT hks;refine⟨by simp[h1],fun i o' hi => ?_⟩;cases i with
   | zero =>
    simp at hi;subst hi;exact⟨_,rfl,by simpa using hk,rfl,by simpa using hg.1,hg.2⟩
   | succ i =>
    obtain⟨x,g1,g2,g3,g4,g5⟩:=h2 i o' (by simpa using hi);refine⟨x,by simpa using g1,?_,g3,?_,g5⟩
    ·simpa using g2
    ·simpa using g4
  ·cases h
theorem Gb {ms:List Nat}{ks:List iU}{i:Nat}{x:iU}(h:ks[i]?=some x):∃ y,(lM ms ks)[i]?=some y/\y.k=x.k/\y.guard=x.guard:=by
 unfold lM;rw[Qc1,X20,h];exact⟨_,rfl,rfl,rfl⟩
theorem Jp {ms:List Nat}{ks:List iU}:(lM ms ks).length=ks.length:=by simp[lM]
end comp
section region
variable {P:Program} {E:Env} {cx:Cx} {σ:Nat->Option FuncId} {Wr:Nat->Prop} {wd:Nat->Prop} {rec:Nat->List FV->List ai->bF}
theorem Trace.kept (hrl:dX rec){ks:List iU}{env:List FV}{f:Nat->St}{vs:List FV}(t:Trace E rec ks env f vs){i:Nat}(hi:i<ks.length):Kept (f i) (f (i+1)):=by
 obtain⟨v,_,h⟩:=t.step i _ (Qa1 hi);rcases h with ⟨_,_,h⟩|⟨_,h⟩
 ·rw[h];exact .refl _
 ·exact nZ hrl h
theorem Trace.Vy (hrl:dX rec){ks:List iU}{env:List FV}{f:Nat->St}{vs:List FV}(t:Trace E rec ks env f vs){i j:Nat}(hij:i<=j)(hj:j<=ks.length):Kept (f i) (f j):=by
 induction j with
 | zero => have : i = 0 :=ae
           subst this;exact .refl _
 | succ j ih =>
  rcases Q21 hij with he|hl
  ·subst he;exact .refl _
  ·exact(ih ae ae).trans (t.kept hrl ae)
theorem LM (ms:List Nat)(ks:List iU):(xX ms ks).length=ks.length:=by simp[xX]
theorem Qd (ms:List Nat)(ks:List iU):(Er ms ks).length=ks.length:=by simp[Er]
theorem LP {ms:List Nat}{ks:List iU}{i:Nat}{x:iU}(h:ks[i]?=some x)(ht:x.k.F4=x.k):∃ y,(Er ms ks)[i]?=some y/\y.k.F4=x.k/\y.guard=x.guard:=by
 have h1:ks.zipIdx[i]?=some (x,i):=by simp[X20,h]
 unfold Er;rw[Qc1,h1];refine⟨_,rfl,?_⟩;simp only;split
 ·rename_i n p v hk;split
  ·exact⟨ht,rfl⟩
  ·exact⟨hk.symm,rfl⟩
 ·rename_i g m a hk;split
  ·exact⟨hk.symm,rfl⟩
  ·split
   ·exact⟨ht,rfl⟩
   ·exact⟨hk.symm,rfl⟩
 ·exact⟨ht,rfl⟩
theorem Jq {ms:List Nat}{ks:List iU}{i:Nat}{x:iU}(h:ks[i]?=some x)(ht:x.k.F4=x.k):∃ y,(xX ms ks)[i]?=some y/\y.k.F4=x.k/\y.guard=x.guard:=by
 have h1:ks.zipIdx[i]?=some (x,i):=by simp[X20,h]
 unfold xX;rw[Qc1,h1];refine⟨_,rfl,?_⟩;simp only;split
 ·rename_i f as hk;split
  ·exact⟨ht,rfl⟩
  ·exact⟨hk.symm,rfl⟩
 ·rename_i g m a hk;split
  ·exact⟨hk.symm,rfl⟩
  ·exact⟨ht,rfl⟩
 ·exact⟨ht,rfl⟩
theorem K.Gc {k:K}(h:k.Lj=true):k.F4=k:=by cases k<;>first|rfl|(simp[K.Lj]at h)
theorem LQ (hm:P.follows .mixedOrders=true)(bA:∀ f g,cx.gid f=some g->σ g=some f)(hB:Bodies P E σ)(hrl:dX rec)(hrec:jB P E σ rec){id:Nat}{ops:Array Oper}{Q:Exit->Act->World->Prop}
  {ks:List iU} {ap:List (Nat × Nat)} {ev:List FV} {st st':St} {a:Act} {w:World} {β:Map} {I:Nat->Prop}
  (hc:jZ P cx ops.toList true=some (ks,ap)) (hap:kg st ap=true) (hr:dJ E rec ks st []=some (st',ev)) (hmw:iN st.base.length st' wd)
  (hS:eH σ β I Wr wd w st) (hG:dE E σ I w) (hT:a_ σ β I w st.base.length cx st.vars [] [] a)
  (hQ:∀ β' I' w' a',Ext E.mn β β' I I' Wr w w'->aZ σ st.base.length β' I' Wr wd (st'.base++st'.loc) w'->a_ σ β' I' w' st.base.length cx st.vars (ops.toList.map (·.dst)) ev a'->ev.length=ops.toList.length->a'.defers=a.defers->Q .normal a' w') :
  (Code.region id ops true).wp P Q a w:=by
 unfold jZ at hc;split at hc
 ·cases hc
 ·rename_i Qt acV;simp only[if_true]at hc;split at hc
  ·rename_i hok;simp only[Qa2]at hok;obtain⟨htm,hok⟩:=hok;simp only[Qd2,Qo2]at hc;obtain⟨rfl,rfl⟩:=hc;obtain⟨g1,g2⟩:=wT acV;obtain⟨ks1,ahS,hl1,hw⟩:∃ ks1,(bif cx.Y3 then xX (masks ops.toList []) Qt else bif cx.far then Er (masks ops.toList []) Qt else Qt)=ks1/\ks1.length=Qt.length/\∀ (i:Nat) (x:iU),Qt[i]?=some x->∃ y,ks1[i]?=some y/\y.k.F4=x.k/\y.guard=x.guard:=by
    cases hcw:cx.Y3 with
    | true=>exact⟨_,rfl,LM _ _,fun i x hx=>Jq hx (K.Gc (Qf0.1 htm x (Qb2 hx)))⟩
    | false=>cases hcf:cx.far with
     | true=>exact⟨_,rfl,Qd _ _,fun i x hx=>LP hx (K.Gc (Qf0.1 htm x (Qb2 hx)))⟩
     | false=>exact⟨_,rfl,rfl,fun i x hx=>⟨x,hx,K.Gc (Qf0.1 htm x (Qb2 hx)),rfl⟩⟩
   rw[ahS]at hok hap hr;obtain⟨f,vs,e1,e2,e3,t⟩:=wP _ hr;simp only[Qn0]at e1;subst e1;generalize af1:lM (masks ops.toList []) ks1=ks at*;have hkl:ks.length=ops.toList.length:=by rw[<-af1,Jp,hl1,g1]
   have hK:∀ i,i<=ops.toList.length->Kept st (f i):=fun i hi=>by rw[<-e2];exact t.Vy hrl (Qy1 _) ae
   have hK':∀ i,i<=ops.toList.length->Kept (f i) st':=fun i hi=>by rw[<-e3];exact t.Vy hrl ae (Qd1 _)
   have hv0:∀ (j:Nat) (tt:Tmp) (y:FV),cx.vars[j]?=some tt->st.vars[j]?=some y->uS st.base.length (st.base++st.loc).length y:=fun j tt y h1 h2=>(hT.var j tt y h1 (eu _) h2).bnd hS.dom
   have R:P_ P E cx σ rec ops.toList ks _ f ev st.base.length st.vars wd :=
    {gid:=bA,bod:=hB,rl:=hrl,rc:=hrec,Qa:=hkl,tr:=t,base:=fun i hi=>(hK i hi).base,Zo:=fun i hi=>(hK i hi).vars,ord:=F_ hok,
     apart:=by rw[e2];exact hap,mw:=fun i hi=>hmw.back (hK' i hi).aQ,afT:=fun j tt y h1 h2=>by rw[e2];exact hv0 j tt y h1 h2,
     comp:=fun i o ho=>by
      obtain⟨x,a1,a2,a3,a4,a5⟩:=g2 i o ho;obtain⟨z,c1,c2,c3⟩:=hw i x a1;obtain⟨y,b1,b2,b3⟩:=Gb (ms:=masks ops.toList []) c1;rw[af1]at b1;exact⟨y,b1,by rw[b2,c2];simpa using a2,by rw[b3,c3];exact a3,by simpa using a4,a5⟩}
   refine wp_region_any hm ?_
   change wpAny P .any ops Q ops.size (Array.replicate ops.size false) a w.drew
   have hG':dE E σ I w.drew:=hG.mono (fun _ h=>h) (fun _ _=>rfl);have hrep:∀ j,(Array.replicate ops.size false).getD j false=false:=fun j=>by
    rcases Qg2 j ops.size with h|h
    ·simp[h]
    ·simp[h]
   have hH0:(f 0).H=st.base++st.loc:=by rw[e2];rfl
   refine P8 (fun listed a' w'=>∃ r β' I',Inv E.mn cx σ ops.toList ks f ev st.base.length st.vars Wr wd β I w.drew a.defers r β' I' listed a' w') (fun i o e hi he hb=>R.ord.edge i o e (by rw[Qt2];exact hi) he hb)
    (fun listed a' w' i hs hcl ⟨r,β',I',hI⟩ hi Kn hKn=>R.step rfl hG' hs hcl hI hi Kn hKn) ?_ ops.size _ a w.drew aC (fun j o e _ hl=>by rw[hrep j]at hl;cases hl) aC ?_
   ·rintro listed a' w' ⟨r,β',I',hI⟩ hall;have hfull:Gr ops.toList f r=st'.base++st'.loc:=by
     have h1:Gr ops.toList f ops.toList.length=Gr ops.toList f r:=by
      refine EG (H:=fun i=>(f i).H) hI.rle (fun j h1 h2 => ?_);have hk:j<ks.length:=ae;cases hq:ks[j].k.loud ks[j].q with
      | false =>
       obtain⟨new,hn⟩:=R.quiet (Qa1 hk) hq;exact fT (H:=fun i=>(f i).H) h2 hn
      | true =>
       have:=(hI.wrote j _ (Qa1 hk) hq).1 (hall j (by simpa using h2));omega
     rw[<-h1];have:=Jm (H:=fun i=>(f i).H) (m:=ops.toList.length);unfold Gr;rw[this,<-hkl,e3];rfl
    have Jo:=hI.pG;rw[hfull]at Jo;refine hQ β' I' w' a' ((wK β I Wr w).trans hI.ext) Jo ⟨hI.size,fun j tt y h1 h2 h3 => ?_,fun tt j y h1 h2 => ?_⟩ (by rw[t.len,hkl]) hI.dfr
    ·refine hI.var j tt y h1 (fun i o ho ht => ?_) h3;refine absurd ?_ (wR h2);rw[Qj2];exact⟨o,Qb2 ho,ht⟩
    ·have h3:=p9 h1;simp only[Qc1,Qg0]at h3;obtain⟨o,h4,h5⟩:=h3;have hj:=(aS h4)
     exact hI.loc j o tt y h4 h5 (hall j (by simpa using hj)) h2
   ·have hG0:Gr ops.toList f 0=(st.base++st.loc)++tails (fun i=>(f i).H) (ops.toList.length-0) 0:=by
     unfold Gr full;simp only[hH0]
    refine⟨0,β,I,⟨Qy1 _,.inl rfl,fun j x _ _=>by rw[hrep j];simp,?_,Ext.refl _ _ _ _,fun j hj _ k u h1 _ => ?_,fun i _ hi k cs x _ h2 h3 => ?_,fun j y hl=>absurd ((hrep j).symm.trans hl) aC,hT.size,
     fun j o tt y _ _ hl=>absurd ((hrep j).symm.trans hl) aC,fun j tt y h1 _ h3=>aI.mono (w:=w) (w':=w.drew) (fun _ _ _ h=>h) (fun _ h=>h) (fun _ _=>rfl) (hT.var j tt y h1 (eu _) h3),rfl⟩⟩
    ·rw[hG0];exact(drew_grow hS).app _
    ·cases hβ:β k u with
     | none=>rfl
     | some y =>
      have h4:=hS.dom k u y hβ;have h5:=R.le (i:=0) (j:=j) (Qy1 _) ae;rw[hH0]at h5;omega
    ·have hk:=hS.dom k 0 x h3;rw[hG0,Qa0 hk]at h2;obtain⟨b,bo,cap⟩:=x;obtain⟨_,c,e,_,b2,b3⟩:=hS.box k cs b bo cap h2 h3;intro cc hcc;obtain⟨j,z,d1,d2⟩:=uT b2 hcc;have h5:=R.le (i:=0) (j:=i) (Qy1 _) hi;rw[hH0]at h5;exact((b3 j cc z d1 d2).bnd hS.dom).mono h5
  ·cases hc
theorem Gd (hm:P.follows .mixedOrders=true)(bA:∀ f g,cx.gid f=some g->σ g=some f)(hB:Bodies P E σ)(hrl:dX rec)(hrec:jB P E σ rec){id:Nat}{ops:Array Oper}{draw:Bool}{Q:Exit->Act->World->Prop}
  {ks:List iU} {ap:List (Nat × Nat)} {ev:List FV} {st st':St} {a:Act} {w:World} {β:Map} {I:Nat->Prop}
  (hc:jZ P cx ops.toList draw=some (ks,ap)) (hap:kg st ap=true) (hr:dJ E rec ks st []=some (st',ev)) (hmw:iN st.base.length st' wd)
  (hS:eH σ β I Wr wd w st) (hG:dE E σ I w) (hT:a_ σ β I w st.base.length cx st.vars [] [] a)
  (hQ:∀ β' I' w' a',Ext E.mn β β' I I' Wr w w'->aZ σ st.base.length β' I' Wr wd (st'.base++st'.loc) w'->a_ σ β' I' w' st.base.length cx st.vars (ops.toList.map (·.dst)) ev a'->ev.length=ops.toList.length->a'.defers=a.defers->Q .normal a' w') :
  (Code.region id ops draw).wp P Q a w:=by
 cases draw with
 | true=>exact LQ hm bA hB hrl hrec hc hap hr hmw hS hG hT hQ
 | false =>
  unfold jZ at hc;split at hc
  ·cases hc
  ·rename_i Qt acV;simp only[Qh1,if_false,Qd2,Qo2]at hc;obtain⟨rfl,rfl⟩:=hc;exact wp_region_list (sO bA hB hrl hrec ops.toList acV hr rfl (fun j d h=>by simp at h) (fun j=>by simp) hmw hS hG hT (fun β' I' w' a' h1 h2 h3 h4 h5=>hQ β' I' w' a' h1 h2 (by simpa using h3) (by simpa using h4) h5))
end region
end
end Fi
